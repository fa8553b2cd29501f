/-
  The references of natural numbers (ref01): lengths, shifts, division by a digit.
-/
import Derived.Test.YtmhfodhmngfoiaaGreatDoorB4
import Derived.Test.YtmhfodhmngfoiaaGreatDoorB1
import Derived.Test.YtmhfodhmngfoiaaGreatDoorB2
import Derived.Test.YtmhfodhmngfoiaaGreatDoorB3
import Derived.Lib.ItoaLen
set_option linter.unusedSimpArgs false
set_option linter.unusedVariables false
set_option linter.unnecessarySimpa false
set_option maxHeartbeats 16000000
open Bool renaming and_eq_true->Pb
open Int renaming toNat_natCast->Da,eq_ofNat_of_zero_le->rb,mul_ediv_cancel_left->Qb,natAbs_mul->Lb,natCast_mul->fc,natAbs_natCast->Mc,sign_eq_one_of_pos->Bc,natCast_add->kd,mul_neg->Md,lt_or_eq_of_le->Cd,sign_eq_neg_one_of_neg->De,add_zero->sf,one_mul->df,neg_mul->af,sub_eq_add_neg->Nf,ofNat_dvd_left->Mf,natAbs_neg->Rg,mul_nonneg->Qg,mul_zero->Bg,gcd->zh
open List renaming drop_zero->ya,length_map->va,mem_cons_self->ta,length_take->ja,mem_cons_of_mem->Oa,length_append->Na,drop_of_length_le->Ma,length_singleton->La,replicate->Ia,mem_singleton->Ha,getElem?_map->Fa,mem_append->Ba,drop_set_of_lt->vb,mem_map->nb,cons.inj->Nb,map->Mb,all_eq_true->Kb,pairwise_iff_getElem->Jb,getElem?_range->Ib,map_cons->Gb,length_eq_one_iff->Bb,head?_eq_getElem?->zc,getElem?_set_self->xc,getElem?_eq_none->tc,mem_reverse->sc,take->dc,getElem?_set->Lc,mem_cons->Jc,length_cons->Ic,getElem?_replicate->Hc,set_append_right->vd,take_zero->dd,take_add_one->Bd,nodup_append->ze,ext_getElem?->ye,drop_sublist->xe,append_assoc->re,getElem_mem->de,append_nil->Me,range->Je,getD_eq_getElem?_getD->Ie,getElem?_append_left->He,getElem?_take_of_lt->xf,mem_of_mem_drop->pf,length_drop->Kf,drop_length->Jf,nil_append->Hf,map_append->Gf,nodup_nil->ng,map_drop->ag,map_nil->Hg,length->Dg
open Nat renaming le_refl->ea,gcd->Qa,mod_lt->Pa,pow_succ->Ka,add_zero->Ja,mul_comm->Ga,div_eq_of_lt->yb,mod_eq_of_lt->tb,two_pow_pos->qb,mul_le_mul_left->ob,div_lt_iff_lt_mul->eb,zero_add->db,mul_zero->Ob,div_add_mod->Db,lt_of_lt_of_le->Cb,sub_zero->wc,one_mul->mc,min_eq_left->kc,mul_lt_mul_of_pos_right->ec,mul_mod_left->Fc,zero_mul->Dc,le_of_lt->Cc,mul_add_mod->zd,mul_add_div->xd,pow_mul->cd,pow_le_pow_right->Qd,pow_add->Od,beq->Jd,mul_assoc->Hd,gcd_zero_right->Ed,eq_zero_or_pos->Dd,sub_self->pe,pow_zero->ie,mul_one->Qe,mul_add->Oe,mul_ne_zero->Le,gcd_pos_of_pos_right->vf,zero_div->uf,gcd_comm->tf,div_one->gf,add_mul->ff,strongRecOn->Bf,div_le_self->pg,add_assoc->Jg,succ_mul->Gg,add_comm->Eg
open Option renaming some.inj->ga,some.injEq->Nc,map_some->Gc,toList_some->Kd,getD_some->Qf
open Prod renaming mk.injEq->zf
open Rat renaming divInt_ofNat->oc,divInt->Oc,sub_eq_add_neg->Pf,num_intCast->Ef,den_intCast->Df,zero_mkRat->gg,mkRat_zero->eg,neg_mkRat->Pg
namespace Go.e9
open F
attribute [local irreducible] AA AF AX AC B4 AU A7 A8 BV BI B0 DS BG A1 BU CB AB A2 AH pw CG B3 CR DK C2 CO CJ BL CY C3 C4 CX C7
variable {L:Lib}
theorem Ahg{d:Nat}(h0:d≠0)(hd:d<4294967296):dg d=[d]:=by
 rw[K0 h0,yb hd,FX,tb hd]
theorem Aje(N:b7 L)(d:Nat)(q:Bool)(h0:d≠0)(hd:d<4294967296):Ev L 106 [.sl q ([d].map AJ)] (.int .i64 (w4 d:Int)):=by
 have hT:=λq=>HY N [d] q (IV hd) Z'
 rw[show val [d]=d by simp[val],Ahg h0 hd]at hT;have ub:[d].length=1:=rfl;have rh:[d][(([d].length:Int)-1).toNat]?=some d:=rfl;have hb:=dV (k:=32) hd;refine Ev.x N.PN rfl rfl ?_;repeat' (first|apply AG<;>intro hc<;>try omega|apply BS;omega|apply GH;omega|apply AP|refine A5 V' ?_ rfl ?_;omega|apply AE|refine AD (hT _) ?_)<;>conv=>whnf
 refine EE (λ_ x=>x) (λ(n x:Nat)=>n+w4 x=w4 d/\x<=d) (λn x=>[(3,.int .i64 n),(4,.int .u32 (x:Int))]) (λ_ _=>[]) 0 d ⟨O',ea _⟩ ?_;intro n x ⟨p1,p2⟩ ih;by_cases hx:x=0
 ·subst hx
  have:w4 0=0:=by unfold w4;simp
  repeat' (first|apply AG<;>intro hc<;>try omega|apply AE)<;>conv=>whnf
  exact BP O'
 ·have h1:w4 (x/2)+1=w4 x:=by
   by_cases h1:x=1
   ·subst h1;decide
   ·exact Z3 1 (x:=x) O'
  repeat' (first|apply AG<;>intro hc<;>try omega|apply AR;omega|apply Ae8|apply AE)<;>conv=>whnf
  exact BF [] (ih (n+1) (x/2) O' ⟨O',O'⟩)
theorem Zy{V P X lo s d p t:Nat}(h:V+P*p*lo=P*(X*2^s))(ht:t=lo+d*2^s):V+P*p*(t%4294967296)+P*p*4294967296*(t/4294967296)=P*((X+p*d)*2^s):=by
 have h1:=QU V (P*p) t;rw[h1,ht];have:P*((X+p*d)*2^s)=P*(X*2^s)+P*p*(d*2^s):=A'
 rw[this,<-h,Oe];omega
theorem zG(N:b7 L)(l:u_)(q:Bool)(n:Nat)(hD:A3 l)(hl:l.length<=549755813888)(hn:n<=65536):Ev L 107 [.sl q (l.map AJ),.int .i64 (n:Int)] (.sl false ((dg (val l*2^n)).map AJ)):=by
 have hT:=λq=>HY N l q hD O'
 have d1:=EH (val l);have v1:=BQ (val l);have l1:=FN hD;have hz:=IU (val l);refine Ev.x N.JY rfl rfl ?_;by_cases h0:val l=0
 ·rw[h0,Dc,FX]
  repeat' (first|apply AG<;>intro hc<;>try omega|apply AP|apply AE|refine AD (hT _) ?_)<;>conv=>whnf
  exact AW rfl (L1 [])
 rw[<-v1];generalize dg (val l)=x at*;have fj:n%32<32:=Pa _ O';have e1:(n:Int)/32=((n/32:Nat):Int):=O'
 have e2:(n:Int)%32=((n%32:Nat):Int):=O'
 repeat' (first|apply AG<;>intro hc<;>try omega|(refine KV ?_ ?_ (λ_=>?_) (λ_ _=>?_);omega;omega;all_goals try omega)|apply AP|apply AE|refine AD (hT _) ?_)<;>conv=>whnf
 rw[e1];refine FJ (enc:=AJ) 0 (n/32) rfl rfl O' ?_;conv=>whnf
 skip
 refine F5 (λi _ _=>x.length-i) (λ(i:Nat)(o:u_)(c:Nat)=>i<=x.length/\o.length=n/32+i/\A3 o/\c<2^(n%32)/\val o+4294967296^(n/32)*4294967296^i*c=4294967296^(n/32)*(val (x.take i)*2^(n%32))) (λi o c=>[(10,.int .i64 i),(9,.int .u64 (c:Int)),(8,.row 107069 0 1 0 (n/32+i))]) (λi o c=>[(107069,107069,.rw 1 (o.map AJ))]) 0 (Ia (n/32) 0) 0 ⟨O',Z',K2 _,qb _,by simp[val,kH]⟩ ?_;intro i o c ⟨p1,p2,p3,p4,p5⟩ ih;have qg:=bT (s:=n%32) O';by_cases hi:i<x.length
 ·obtain⟨d,hd⟩:=N' x i hi
  have bn:=d1.at hd;obtain⟨f1,f2,f3,f4⟩:=WY (s:=n%32) bn O';have hr:=iF (show n%32<=64 by omega) f4;repeat' (first|apply AG<;>intro hc<;>try omega|(refine I9 ?_ (λ_ _ _=>?_) (λ_ _ _ _=>?_);omega;all_goals try omega)|apply B7;omega|apply AP|refine A5 V' ?_ rfl ?_;omega|apply AE)<;>conv=>whnf
  rw[e2];refine QP O' f4 ?_;conv=>whnf
  skip
  refine dI (n%32) (Fc _ _) p4 O' ?_;conv=>whnf
  have o7:=Zy (d:=d) p5 rfl;have tu:(c+d*2^(n%32))/4294967296<2^(n%32):=by
   rw[eb O'];have:=zR (2^(n%32)) (show d<=4294967295 by omega)
   omega
  generalize c+d*2^(n%32)=t at*;repeat' (first|apply G7|apply CT)<;>conv=>whnf
  refine DH (enc:=AJ) (t%4294967296) rfl p2.symm rfl O' O' ?_;conv=>whnf
  repeat' (first|apply AR;omega|apply GQ)<;>conv=>whnf
  rw[show(o++[t%4294967296]).length=n/32+(i+1)by simp[p2];omega];refine BB [(107069,107091)] E' (ih (i+1) (o++[t%4294967296]) (t/4294967296) O' ⟨O',by simp;omega,p3.append (IV O'),tu,?_⟩);rw[OE,p2,ER hd,Od,Ka,<-Hd];exact o7
 ·obtain rfl:i=x.length:=O'
  clear ih;have ur:c<4294967296:=O'
  have hOD:A3 (o++[c]):=p3.append (IV ur);have Ge:val (o++[c])=val x*2^n:=by
   rw[OE,p2,Od,p5,DQ (ea _)];have e3:2^n=4294967296^(n/32)*2^(n%32):=by
    rw[show 4294967296=2^32 from rfl,<-cd,<-Od];congr 1;omega
   rw[e3];grind
  have Gd:(o++[c]).length=n/32+x.length+1:=by simp[p2]
  repeat' (first|apply AG<;>intro hc<;>try omega|apply E3;omega|apply AP|apply CT|apply AE)<;>conv=>whnf
  refine DH (enc:=AJ) c rfl p2.symm rfl O' O' ?_;conv=>whnf
  rw[<-Ge,Gd];generalize o++[c]=O at*;rw[<-Gd];clear p3 p4 p5 Ge;refine I7 1000 N.JZ rfl rfl ?_;(repeat' (apply AE<;>conv=>whnf))
  refine DG (λn=>n) (λ(n:Nat)=>n<=(O).length/\∀i,n<=i->i<(O).length->(O)[i]?=some 0) (λn=>[(3,.int .i64 n)]) (λ_=>[]) (O).length ⟨ea _,λi h1 h2=>O'⟩ ?_;intro n ⟨p1,p2⟩ ih;rcases n with _|n
  ·repeat' (first|apply AG<;>intro hc<;>try omega|apply AE)<;>conv=>whnf
   refine I6 0 O' O' ?_;conv=>whnf
   have fh:=H5 (l:=O) V' p1 p2 (Or.inl rfl);have u6:(dc 0 O).length<=(O).length:=by rw[ja];omega
   clear ih p2;refine dO (enc:=AJ) O' ?_;conv=>whnf
   rw[ya,wc];generalize Ea:dc 0 O=T0 at*;refine RQ (enc:=AJ) (λ_=>rfl) O' O' ?_;conv=>whnf
   refine⟨rfl,_,rfl,?_⟩;conv=>whnf
   (refine C6 (enc:=AJ) (λ_=>rfl) rfl rfl ?_;(conv=>whnf);exact AW (by rw[<-fh]) (L1 _))
  ·have e1:((n+1:Nat):Int)-1=n:=O'
   repeat' (first|apply AG<;>intro hc<;>try omega|apply A4;omega|apply BS;omega|refine VD V' ?_ (λv hv hb=>?_);omega|apply AE)<;>conv=>whnf
   ·rw[e1]
    exact BF [] (ih n O' ⟨O',λi h1 h2=>by
     by_cases h:i=n
     ·subst h
      rw[e1,Da]at hv;rw[hv];congr 1;omega
     ·exact p2 i O' h2⟩)
   ·refine I6 (n+1) O' O' ?_
    (conv=>whnf)
    rw[e1,Da]at hv;have fh:=H5 (l:=O) V' p1 p2 (Or.inr ⟨_,hv,O'⟩);have u6:(dc (n+1) O).length<=(O).length:=by rw[ja];omega
    clear ih p2 hv;(rw[uS (l:=O)];rotate_left;exact rfl;exact rfl);conv=>whnf
    refine dO (enc:=AJ) O' ?_;conv=>whnf
    rw[ya,wc];generalize Ea:dc (n+1) O=T0 at*;refine RQ (enc:=AJ) (λ_=>rfl) O' O' ?_;conv=>whnf
    refine⟨rfl,_,rfl,?_⟩;conv=>whnf
    (refine C6 (enc:=AJ) (λ_=>rfl) rfl rfl ?_;(conv=>whnf);exact AW (by rw[<-fh]) (L1 _))
theorem An9{l:u_}(hD:A3 l)(k:Nat)(hk:k<=l.length):val (l.drop k)=val l/4294967296^k:=by
 have h1:=LQ l k hk;have h2:=F2 (hD.take k);rw[ja,kc hk]at h2;rw[h1,Nat.add_mul_div_left _ _ (Nat.pow_pos O'),yb h2,db]
theorem Amm(n:Nat):2^n=4294967296^(n/32)*2^(n%32):=by
 rw[show 4294967296=2^32 from rfl,<-cd,<-Od];congr 1;omega
theorem Ah7{d e V r:Nat}(hd:d<4294967296)(hr:r<32):(d+e*4294967296)/2^r%4294967296+4294967296*((e+4294967296*V)/2^r)=(d+4294967296*(e+4294967296*V))/2^r:=by
 obtain⟨f1,f2,f3⟩:=Uj (V:=e) hd (show r<=32 by omega);rw[pC (d:=d) (V:=e+4294967296*V) O',Uk (d:=e) (V:=V) O'];have h1:=pC (d:=d) (V:=e) (s:=r) O';rw[show d+e*4294967296=d+4294967296*e by omega,h1];clear h1;generalize d/2^r=A at*;generalize e%2^r*2^(32-r)=Q at*;generalize e/2^r=Z at*;generalize 2^(32-r)=P at*;omega
theorem Ajh(N:b7 L)(l:u_)(q:Bool)(n:Nat)(hD:A3 l)(hl:l.length<=549755813888)(hn:1<=n/\n<=65536):Ev L 107 [.sl q (l.map AJ),.int .i64 (-(n:Int))] (.sl false ((dg (val l/2^n)).map AJ)):=by
 have hT:=λq=>HY N l q hD O'
 have d1:=EH (val l);have v1:=BQ (val l);have l1:=FN hD;have hz:=IU (val l);refine Ev.x N.JY rfl rfl ?_;by_cases h0:val l=0
 ·rw[h0,uf,FX]
  repeat' (first|apply AG<;>intro hc<;>try omega|apply AP|apply AE|refine AD (hT _) ?_)<;>conv=>whnf
  exact AW rfl (L1 [])
 rw[<-v1];generalize dg (val l)=x at*;have Pq:n%32<32:=Pa _ O';have e1:(- -(n:Int))/32=((n/32:Nat):Int):=O'
 have e2:(- -(n:Int))%32=((n%32:Nat):Int):=O'
 by_cases Nw:32*x.length<n
 ·have k7:val x/2^n=0:=by
   refine yb (Cb (F2 d1) ?_);rw[show 4294967296=2^32 from rfl,<-cd];exact Qd O' O'
  rw[k7,FX];repeat' (first|apply AG<;>intro hc<;>try omega|apply GH;omega|apply AP|apply AE|refine AD (hT _) ?_)<;>conv=>whnf
  exact AW rfl (L1 [])
 have hk:n/32<=x.length:=O'
 have hvd:=An9 d1 _ hk;repeat' (first|apply AG<;>intro hc<;>try omega|apply GH;omega|(refine KV ?_ ?_ (λ_=>?_) (λ_ _=>?_);omega;omega;all_goals try omega)|apply B4.neg;omega|apply AP|apply AE|refine AD (hT _) ?_)<;>conv=>whnf
 rw[e1];refine EE (λi _=>x.length-i) (λ(i:Nat)(o:u_)=>n/32<=i/\i<=x.length/\o.length=i-n/32/\A3 o/\val o+4294967296^(i-n/32)*(val (x.drop i)/2^(n%32))=val (x.drop (n/32))/2^(n%32)) (λi o=>[(6,.int .i64 i),(5,.row 107005 0 1 0 o.length)]) (λi o=>[(107005,107005,.rw 1 (o.map AJ))]) (n/32) [] ⟨ea _,hk,Z',X7,by simp[val]⟩ ?_;intro i o ⟨p0,p1,p2,p3,p5⟩ ih;by_cases hi:i<x.length
 ·obtain⟨d,hd⟩:=N' x i hi
  have bn:=d1.at hd;have g1:=I4 hd;have g2:=W9 x (i+1);have g3:=Ah7 (e:=x.getD (i+1) 0) (V:=val (x.drop (i+1+1))) bn Pq;rw[<-g2,<-g1]at g3;have key:∀t,t=d+x.getD (i+1) 0*4294967296->val (o++[t/2^(n%32)%4294967296])+4294967296^(i+1-n/32)*(val (x.drop (i+1))/2^(n%32))=val (x.drop (n/32))/2^(n%32):=λt ht=>by
   rw[OE,p2,show i+1-n/32=(i-n/32)+1 by omega,Ka,ht,Jg,Hd,<-Oe,g3];exact p5
  by_cases hy:i+1<x.length
  ·obtain⟨e,he⟩:=N' x (i+1) hy
   have Og:=d1.at he;have jb:x[((i:Int)+1).toNat]?=some e:=by rw[show((i:Int)+1).toNat=i+1 by omega];exact he
   rw[II he]at key;repeat' (first|apply AG<;>intro hc<;>try omega|apply AR;omega|apply OI;omega|apply B7;omega|apply AP|refine A5 V' ?_ rfl ?_;omega|apply AE)<;>conv=>whnf
   refine dI 32 (Fc _ _) O' O' ?_;conv=>whnf
   repeat' (first|(refine I9 ?_ (λ_ _ _=>?_) (λ_ _ _ _=>?_);omega;all_goals try omega)|apply B7;omega)<;>conv=>whnf
   rw[e2];refine QO (n:=n%32) (by show n%32<=64;omega) ?_;conv=>whnf
   repeat' (first|apply G7|apply CT)<;>conv=>whnf
   refine DH (enc:=AJ) ((d+e*4294967296)/2^(n%32)%4294967296) rfl rfl rfl O' O' ?_;conv=>whnf
   repeat' (first|apply AR;omega|fail)<;>conv=>whnf
   exact BF [(107005,107064)] (ih (i+1) (o++[(d+e*4294967296)/2^(n%32)%4294967296]) O' ⟨O',O',by simp;omega,p3.append (IV O'),key (d+e*4294967296) rfl⟩)
  ·rw[<-getD_none (show x.length<=i+1 by omega),Dc]at key
   repeat' (first|apply AG<;>intro hc<;>try omega|apply AR;omega|(refine I9 ?_ (λ_ _ _=>?_) (λ_ _ _ _=>?_);omega;all_goals try omega)|apply B7;omega|apply AP|refine A5 V' ?_ rfl ?_;omega|apply AE)<;>conv=>whnf
   rw[e2];refine QO (n:=n%32) (by show n%32<=64;omega) ?_;conv=>whnf
   repeat' (first|apply G7|apply CT)<;>conv=>whnf
   refine DH (enc:=AJ) (d/2^(n%32)%4294967296) rfl rfl rfl O' O' ?_;conv=>whnf
   repeat' (first|apply AR;omega|fail)<;>conv=>whnf
   exact BF [(107005,107064)] (ih (i+1) (o++[d/2^(n%32)%4294967296]) O' ⟨O',O',by simp;omega,p3.append (IV O'),key d rfl⟩)
 ·obtain rfl:i=x.length:=O'
  clear ih;rw[Ma (ea _),KR,uf,Ob,Ja,hvd,Nat.div_div_eq_div_mul,<-Amm]at p5;have Kc:=λq=>HY N o q p3 O'
  rw[p5]at Kc;repeat' (first|apply AG<;>intro hc<;>try omega|apply AP|(refine C6 (λ_=>rfl) rfl ?_ ?_;(first|rfl|simp))|apply AE|refine AD (Kc _) ?_)<;>conv=>whnf
  exact AW rfl (L1 _)
end Go.e9
namespace Go.e9
open F
attribute [local irreducible] AA AF AX AC B4 AU A7 A8 BV BI B0 DS BG A1 BU CB AB A2 AH pw CG B3 CR DK C2 CO CJ BL CY C3 C4 CX C7
variable {L:Lib}
theorem Anl{V R y d t Q:Nat}(h:Q*y+R=V)(ht:t=R*4294967296+d):(t/y+4294967296*Q)*y+t%y=d+4294967296*V:=by
 have:=Db t y
 rw[<-h,ff];have e:t/y*y=y*(t/y):=Ga _ _;grind
theorem Aji(N:b7 L)(x:u_)(Y:Nat)(q:Bool)(d1:A3 x)(hx:x.length<=549755813888)(h0:Y≠0)(hY:Y<4294967296):Ev L 108 [.sl q (x.map AJ),.int .u32 (Y:Int)] (.j5 [.sl false ((dg (val x/Y)).map AJ),.int .u32 ((val x%Y:Nat):Int)]):=by
 refine Ev.x N.PQ rfl rfl ?_;repeat' (first|apply AP|apply AE)<;>conv=>whnf
 refine FJ (enc:=AJ) 0 x.length rfl O' O' ?_;conv=>whnf
 repeat' (first|apply BS;omega|apply AP)<;>conv=>whnf
 refine F5 (λn _ _=>n) (λ(n:Nat)(o:u_)(r:Nat)=>n<=x.length/\o.length=x.length/\A3 o/\r<Y/\val (o.drop n)*Y+r=val (x.drop n)) (λn o r=>[(7,.int .u64 (r:Int)),(8,.int .i64 ((n:Int)-1))]) (λn o r=>[(11,11,.rw 1 (o.map AJ))]) x.length (Ia x.length 0) 0 ⟨O',Z',K2 _,O',by rw[Ma (ea _),Ma Z'];simp[val]⟩ ?_;intro n o r ⟨p1,p2,p3,p4,p5⟩ ih;rcases n with _|n
 ·rw[ya,ya]at p5
  have hq:val x/Y=val o/\val x%Y=r:=by
   rw[<-p5];have e1:(val o*Y+r)/Y=val o:=by
    rw[Ga,xd O',yb p4,Ja]
   have e2:(val o*Y+r)%Y=r:=by
    rw[Ga,zd,tb p4]
   exact⟨e1,e2⟩
  have hT:=λq=>HY N o q p3 O'
  rw[hq.1,hq.2,<-p2];clear ih hq p5;repeat' (first|apply AG<;>intro hc<;>try omega|apply E3;omega|(refine C6 (λ_=>rfl) rfl ?_ ?_;(first|rfl|simp))|apply AE|refine AD (hT _) ?_)<;>conv=>whnf
  refine AW rfl ?_;simp only[AY,BK,and_true,true_and];exact C8 _
 ·have e1:((n+1:Nat):Int)-1=n:=O'
  rw[e1];obtain⟨d,hd⟩:=N' x n;have bn:=d1.at hd;have hR:r*4294967296+d<Y*4294967296:=O'
  have wv:(r*4294967296+d)/Y<4294967296:=(eb O').2 O';repeat' (first|apply AG<;>intro hc<;>try omega|apply A4;omega|apply OI;omega|apply QN;omega|(apply dJ;omega;omega)|apply B7;omega|apply E3;omega|refine A5 V' ?_ rfl ?_;omega|apply AE)<;>conv=>whnf
  obtain⟨t,ht⟩:∃t,t=r*4294967296+d:=⟨_,rfl⟩;rw[<-ht]at hR wv⊢;have hm:t%Y<Y:=Pa _ O';have o7:=Anl p5 ht;rw[<-I4 hd]at o7;clear ht;skip
  refine GI O' ?_;conv=>whnf
  repeat' (first|apply BS;omega|apply ZU;omega|apply B7;omega)<;>conv=>whnf
  generalize t/Y=tq at*;generalize t%Y=tr at*;refine BB [] E' (ih n _ _ O' ⟨O',by simpa using p2,p3.set _ O',hm,?_⟩);rw[I4 (l:=o.set n tq) (d:=tq) (by rw[xc O']),vb O'];exact o7
theorem eH(a b:u_)(e:Int):AY (.j5 [.sl false (a.map AJ),.sl false (b.map AJ),.int .i64 e]):=by
 simp only[AY,BK,and_true,true_and];exact⟨C8 a,C8 b⟩
abbrev Aho:List It:=[It.lp EM.l1,It.c9 0,
   It.code
    (((BH.ops EM.Fe false).dr [0,75,79,80] []).seq
     (((BH.ops EM.Ff false).dr [81,82,83,84,85] []).seq
      ((((BH.ops EM.Fg false).dr [86,87,88,89,90] []).seq
         (BH.block 2 EM.l2.loop)).seq
       (((BH.ops EM.Rc true).dr [9,10,11,12,13,14,92,277,278,279,280,281,282,283,284]
          []).seq
        BH.ret))))]
abbrev fE:List It:=[It.lp EM.l2,It.c9 2,It.code
       (((BH.ops EM.Rc true).dr [9,10,11,12,13,14,92,277,278,279,280,281,282,283,284]
          []).seq
        BH.ret)]
abbrev fG(v:u_)(s ul m:Nat)(j:Int):Tm:=[(14,.int .i64 j),(13,.row 85 0 1 0 m),(12,.int .i64 v.length),(11,.sl false (v.map AJ)),(10,.row 69 0 1 0 ul),(9,.int .i64 (s:Int))]
abbrev Ahn:BH:=(((BH.ops EM.r39 false).dr [18,19,20,166,205,206,207] []).seq
                (((BH.ops EM.r40 false).dr [208,209,210,211,212,213,214] []).seq
                 ((BH.ops EM.r41 false).seq
                  ((((BH.ops EM.r42 false).dr [215,216] []).seq
                     (BH.cond 217
                      (((BH.ops EM.r43 false).dr [18,217,218,219] []).seq
                       (BH.ops EM.r44 false))
                      BH.skip)).seq
                   (((BH.ops EM.r45 false).dr
                      [23,24,217,220,221,222,223,224,225,226,227,228] []).seq
                    ((((BH.ops EM.r46 false).dr [18,229] []).seq
                       (BH.cond 230
                        (((BH.ops EM.r47 false).dr [230,231,232] []).seq
                         ((BH.ops EM.r48 false).seq
                          (((BH.ops EM.r49 false).seq
                             (BH.block 8 EM.l5.loop)).seq
                           ((BH.ops EM.r55 false).dr
                            [25,26,235,262,263,264,265,266,267,268,269,270,271]
                            []))))
                        BH.skip)).seq
                     ((BH.ops EM.r56 false).dr [16,230,272,273,274,275,276]
                      [])))))))
abbrev Ahp:List It:=It.lp EM.l4::It.c9 6::It.code Ahn::It.c9 3::It.code ((BH.ops EM.Bk false).dr [93,94] [])::fE
section
variable {A W C w y:u_} {j m s ul q:Nat} {Q:Tm->Mem->Prop}
theorem XC{e i n:Nat}(hi:i=A.length+n)(he:W[n]?=some e):(A++W++C)[i]?=some e:=by
 rw[Yz hi (zS he).1];exact he
theorem mB(hA:A.length=j)(hW:W.length=y.length+1)(D2:A3 W)(ib:A3 y)(je:2<=y.length)(xg:y.length<=549755813888)(cg:0<val y)(fe:j<=1099511627776)
  (qh:ul=j+(y.length+1)+C.length) (Ld:w.length=m) (Kr:j<m)
  (r1:q<4294967296) (r2:val W/val y<=q) (r3:q<=val W/val y+1)
  (hk:∀(W':u_)(q':Nat),W'.length=y.length+1->A3 W'->val W'=val W%val y->q'=val W/val y->AA L fE (fG y s ul m ((j:Int)-1)) [(69,101021,.rw 1 ((A++W'++C).map AJ)),(85,85,.rw 1 ((w.set j q').map AJ))] Q) :
  AA L Ahp ([(20,.int .i64 0),(19,.int .u64 0),(18,.int .u64 0),(16,.int .u64 (q:Int))]++fG y s ul m (j:Int)) [(69,101021,.rw 1 ((A++W++C).map AJ)),(85,85,.rw 1 (w.map AJ))] Q:=by
 refine tF (λi _ _ _=>y.length-i) (λ(i:Nat)(Z:u_)(c b:Nat)=>i<=y.length/\Z.length=y.length+1/\A3 Z/\c<4294967296/\b<=1/\Z.drop i=W.drop i/\val (Z.take i)+q*val (y.take i)=val (W.take i)+4294967296^i*(c+b)) (λi Z c b=>[(20,.int .i64 i),(18,.int .u64 (b:Int)),(19,.int .u64 (c:Int))]) (λi Z c b=>[(69,101021,.rw 1 ((A++Z++C).map AJ))]) [] [] 0 W 0 0 E' ⟨O',hW,D2,O',O',rfl,by simp[val]⟩ ?_;intro i Z c b ⟨p1,p2,p3,p4,p5,p6,p7⟩ ih;by_cases hi:i<y.length
 ·obtain⟨d,hd⟩:=N' y i hi
  obtain⟨u,hu⟩:=N' Z i;have bn:=ib.at hd;have ue:=p3.at hu;have Kx:(A++Z++C)[((i:Int)+(j:Int)).toNat]?=some u:=XC O' hu;obtain⟨pr,uy⟩:∃pr,pr=c+q*d:=⟨_,rfl⟩;obtain⟨m1,m2,m3⟩:=Vf r1 bn p4 (show pr=q*d+c by omega);have yo:W[i]?=some u:=by
   have e1:(Z.drop i)[0]?=(W.drop i)[0]? := by rw[p6]
   simpa [hu]using e1.symm
  have ef:∀w,(Z.set i w).drop (i+1)=W.drop (i+1):=λw=>by
   rw[vb O'];have e1:(Z.drop i).drop 1=(W.drop i).drop 1:=by rw[p6]
   simpa using e1
  have o7:∀have' take w dm,take=pr%4294967296+b->((have'=u/\dm=0/\take<=u)\/(have'=u+4294967296/\dm=1/\u<take))->w+take=have'->val ((Z.set i w).take (i+1))+q*val (y.take (i+1))=val (W.take (i+1))+4294967296^(i+1)*(pr/4294967296+dm):=λhave' take w dm a1 a2 a3=>by
   rw[HS O',ER hd,ER yo,Ka];exact AlS p7 uy a1 a2 a3
  by_cases k7:u<pr%4294967296+b
  ·have h3:=o7 (u+4294967296) (pr%4294967296+b) (u+4294967296-(pr%4294967296+b)) 1 rfl (Or.inr ⟨rfl,rfl,k7⟩) O'
   repeat' (first|apply AG<;>intro hc<;>try omega|apply A4;omega|apply AR;omega|apply HW;omega|apply QM;omega|apply uA;omega|(apply KU;omega;omega)|apply GQ|apply dH;omega|apply B7;omega|apply E3;omega|refine A5 V' ?_ rfl ?_;omega|refine LW V' ?_|apply AE)<;>conv=>whnf
   rw[<-uy];skip
   refine OK i O' O' ?_;conv=>whnf
   repeat' (first|apply AR;omega|fail)<;>conv=>whnf
   exact BB [] E' (ih (i+1) (Z.set i (u+4294967296-(pr%4294967296+b))) (pr/4294967296) 1 O' ⟨O',by simpa using p2,p3.set _ O',m1,O',ef _,h3⟩)
  ·have h3:=o7 u (pr%4294967296+b) (u-(pr%4294967296+b)) 0 rfl (Or.inl ⟨rfl,rfl,O'⟩) O'
   repeat' (first|apply AG<;>intro hc<;>try omega|apply A4;omega|apply AR;omega|apply HW;omega|apply QM;omega|apply uA;omega|(apply KU;omega;omega)|apply GQ|apply B7;omega|apply E3;omega|refine A5 V' ?_ rfl ?_;omega|refine LW V' ?_|apply AE)<;>conv=>whnf
   rw[<-uy];skip
   refine OK i O' O' ?_;conv=>whnf
   repeat' (first|apply AR;omega|fail)<;>conv=>whnf
   exact BB [] E' (ih (i+1) (Z.set i (u-(pr%4294967296+b))) (pr/4294967296) 0 O' ⟨O',by simpa using p2,p3.set _ O',m1,O',ef _,h3⟩)
 ·obtain rfl:i=y.length:=O'
  clear ih;obtain⟨u,hu⟩:=N' Z y.length;have ue:=p3.at hu;have Kx:(A++Z++C)[((j:Int)+(y.length:Int)).toNat]?=some u:=XC O' hu;have yo:W[y.length]?=some u:=by
   have e1:(Z.drop y.length)[0]?=(W.drop y.length)[0]? := by rw[p6]
   simpa [hu]using e1.symm
  rw[DQ (ea y.length)]at p7;have eW:val W=val (W.take y.length)+4294967296^y.length*u:=by
   rw[<-ER yo,DQ O']
  have o7:∀have' take w dm,take=c+b->((have'=u/\dm=0/\take<=u)\/(have'=u+4294967296/\dm=1/\u<take))->w+take=have'->val (Z.set y.length w)+q*val y=val W+4294967296^y.length*4294967296*dm:=λhave' take w dm a1 a2 a3=>by
   have h1:=AlQ p7 a1 a2 a3;rw[<-eW,<-HS (show y.length<Z.length by omega),DQ K']at h1;exact h1
  by_cases k7:u<c+b
  ·have h3:=o7 (u+4294967296) (c+b) (u+4294967296-(c+b)) 1 rfl (Or.inr ⟨rfl,rfl,k7⟩) O'
   have Gr:A3 (Z.set y.length (u+4294967296-(c+b))):=p3.set _ O';have Ee:(Z.set y.length (u+4294967296-(c+b))).length=y.length+1:=by simpa using p2
   rw[Qe]at h3;have Ec:=F2 Gr;rw[Ee,Ka]at Ec;obtain⟨y1,y2,y3⟩:=wR cg r3 Ec h3;repeat' (first|apply AG<;>intro hc<;>try omega|apply A4;omega|apply AR;omega|apply HW;omega|(apply KU;omega;omega)|apply dH;omega|apply B7;omega|apply E3;omega|refine LW V' ?_|apply AE)<;>conv=>whnf
   refine OK y.length O' O' ?_;conv=>whnf
   repeat' (first|apply AG<;>intro hc<;>try omega|(apply KU;omega;omega))<;>conv=>whnf
   clear p7 p6 eW hu yo ue Kx p2 p3 o7;generalize Z.set y.length (u+4294967296-(c+b))=X at*;have hRV:val W%val y<val y:=Pa _ cg;have Cf:=F2 ib;obtain⟨xw,Dt⟩:=N' X y.length;have eX:val X=val (X.take y.length)+4294967296^y.length*xw:=by
    rw[<-ER Dt,DQ O']
   have yd:q-1<4294967296:=O'
   refine F5 (λi _ _=>y.length-i) (λ(i:Nat)(Z:u_)(c:Nat)=>i<=y.length/\Z.length=y.length+1/\A3 Z/\c<=1/\Z.drop i=X.drop i/\val (Z.take i)+4294967296^i*c=val (X.take i)+val (y.take i)) (λi Z c=>[(26,.int .i64 i),(25,.int .u64 (c:Int))]) (λi Z c=>[(69,101021,.rw 1 ((A++Z++C).map AJ))]) 0 X 0 ⟨O',Ee,Gr,O',rfl,by simp[val]⟩ ?_;intro i Z c ⟨p1,p2,p3,p4,p6,p7⟩ ih;by_cases hi:i<y.length
   ·obtain⟨d,hd⟩:=N' y i hi
    obtain⟨u,hu⟩:=N' Z i;have bn:=ib.at hd;have ue:=p3.at hu;have Kx:(A++Z++C)[((i:Int)+(j:Int)).toNat]?=some u:=XC O' hu;have np:X[i]?=some u:=by
     have e1:(Z.drop i)[0]?=(X.drop i)[0]? := by rw[p6]
     simpa [hu]using e1.symm
    have yq:=uN (d:=d) (w:=u) (t:=c+(u+d)) p7 O';repeat' (first|apply AG<;>intro hc<;>try omega|apply A4;omega|apply AR;omega|apply HW;omega|apply B7;omega|apply G7|refine A5 V' ?_ rfl ?_;omega|refine LW V' ?_|apply AE)<;>conv=>whnf
    generalize ht2:c+(u+d)=t2 at*;refine OK i O' O' ?_;conv=>whnf
    repeat' (first|apply AR;omega|apply GQ)<;>conv=>whnf
    refine BB [] E' (ih (i+1) (Z.set i (t2%4294967296)) (t2/4294967296) O' ⟨O',by simpa using p2,p3.set _ O',O',?_,?_⟩)
    ·rw[vb O']
     have e1:(Z.drop i).drop 1=(X.drop i).drop 1:=by rw[p6]
     simpa using e1
    ·rw[HS O',ER hd,ER np,Ka]
     exact yq
   ·obtain rfl:i=y.length:=O'
    clear ih;obtain⟨u,hu⟩:=N' Z y.length;have ue:=p3.at hu;have Kx:(A++Z++C)[((j:Int)+(y.length:Int)).toNat]?=some u:=XC O' hu;have np:X[y.length]?=some u:=by
     have e1:(Z.drop y.length)[0]?=(X.drop y.length)[0]? := by rw[p6]
     simpa [hu]using e1.symm
    rw[np]at Dt;obtain rfl:u=xw:=by simpa using Dt
    rw[DQ (ea y.length)]at p7;have Gt:=F2 (p3.take y.length);rw[ja,kc O']at Gt;rw[eX]at y3;have ri:=uM p7 y3 O' Gt;rw[<-HS (show y.length<Z.length by omega),DQ K']at ri;repeat' (first|apply AG<;>intro hc<;>try omega|apply A4;omega|apply AR;omega|apply tZ|apply E3;omega|refine LW V' ?_|apply AE)<;>conv=>whnf
    refine OK y.length O' O' ?_;conv=>whnf
    repeat' (first|apply A4;omega|apply E3;omega)<;>conv=>whnf
    refine GI O' ?_;conv=>whnf
    repeat' (first|apply BS;omega|fail)<;>conv=>whnf
    exact BB [] E' (hk _ _ (by simpa using p2) (p3.set _ O') ri y1)
  ·have h3:=o7 u (c+b) (u-(c+b)) 0 rfl (Or.inl ⟨rfl,rfl,O'⟩) O'
   rw[Ob,Ja]at h3;obtain⟨y1,y2⟩:=wS cg r2 h3;repeat' (first|apply AG<;>intro hc<;>try omega|apply A4;omega|apply AR;omega|apply HW;omega|(apply KU;omega;omega)|apply B7;omega|apply E3;omega|refine LW V' ?_|apply AE)<;>conv=>whnf
   refine OK y.length O' O' ?_;conv=>whnf
   repeat' (first|apply AG<;>intro hc<;>try omega|apply A4;omega|apply E3;omega)<;>conv=>whnf
   refine GI O' ?_;conv=>whnf
   repeat' (first|apply BS;omega|fail)<;>conv=>whnf
   exact BB [] E' (hk _ _ (by simpa using p2) (p3.set _ O') y2 y1)
theorem Ahq(hA:A.length=j)(hW:W.length=y.length+1)(D2:A3 W)(ib:A3 y)(je:2<=y.length)(xg:y.length<=549755813888)(cg:0<val y)(fe:j<=1099511627776)
  (n2:4294967296^(y.length-1)*2147483648<=val y) (g2:val W<4294967296*val y) (qh:ul=j+(y.length+1)+C.length) (Ld:w.length=m) (Kr:j<m)
  (hk:∀(W':u_)(q':Nat),W'.length=y.length+1->A3 W'->val W'=val W%val y->q'=val W/val y->AA L fE (fG y s ul m ((j:Int)-1)) [(69,101021,.rw 1 ((A++W'++C).map AJ)),(85,85,.rw 1 ((w.set j q').map AJ))] Q) :
  AA L (.code EM.l2::fE) (fG y s ul m (j:Int)) [(69,101021,.rw 1 ((A++W++C).map AJ)),(85,85,.rw 1 (w.map AJ))] Q:=by
 obtain⟨UL,a1,a2⟩:=kG D2 (n:=y.length+1) O' O';obtain⟨VL,b5,b6⟩:=AdX ib (n:=y.length) je O';obtain⟨u0,w0⟩:=N' W y.length;obtain⟨u1,w1⟩:=N' W (y.length-1);obtain⟨u2,w2⟩:=N' W (y.length-2);obtain⟨f1,x1⟩:=N' y (y.length-1);obtain⟨f2,x2⟩:=N' y (y.length-2);rw[show y.length+1-3=y.length-2 by omega,show y.length+1-2=y.length-1 by omega,show y.length+1-1=y.length by omega,II w0,II w1,II w2]at a2;rw[show y.length+1-3=y.length-2 by omega]at a1;rw[II x1,II x2]at b6;have uw:=Zu ib (k:=y.length-1) O' n2 x1;have k0:=D2.at w0;have k1:=D2.at w1;have k2:=D2.at w2;have k3:=ib.at x1;have k4:=ib.at x2;have z1:y[((y.length:Int)-1).toNat]?=some f1:=by rw[show((y.length:Int)-1).toNat=y.length-1 by omega];exact x1
 have z2:y[((y.length:Int)-2).toNat]?=some f2:=by rw[show((y.length:Int)-2).toNat=y.length-2 by omega];exact x2
 have td:(A++W++C)[((j:Int)+(y.length:Int)).toNat]?=some u0:=XC O' w0;repeat' (first|apply AG<;>intro hc<;>try omega|apply A4;omega|apply AR;omega|apply BS;omega|apply OI;omega|apply B7;omega|refine LW V' ?_|apply AE)<;>conv=>whnf
 have gd:(A++W++C)[((j:Int)+(y.length:Int)-1).toNat]?=some u1:=XC O' w1;refine Ae5 gd ?_;conv=>whnf
 refine tO O' ?_;conv=>whnf
 refine QN O' ?_;conv=>whnf
 clear td gd;have dn:(A++W++C)[((j:Int)+(y.length:Int)-2).toNat]?=some u2:=XC O' w2;generalize Qi:u0*4294967296+u1=top at*;have Ip:top<=18446744073709551615:=O'
 have hU:val W=UL+4294967296^(y.length-2)*(u2+4294967296*top):=by rw[a2,show u1+4294967296*u0=top by omega]
 repeat' (first|apply BS;omega|apply ZU;omega|(apply dJ;omega;omega)|apply B7;omega|refine A5 V' ?_ rfl ?_;omega)<;>conv=>whnf
 refine ZL (λq _=>q) (λ(q r:Nat)=>Gs (val W) (val y) f1 f2 u2 top q r) (λq r=>[(16,.int .u64 (q:Int)),(17,.int .u64 (r:Int))]) (λ_ _=>[]) [] [] (top/f1) (top%f1) E' (Gs.start hU b6 a1 k2 cg O' k3) ?_;intro q r g gv;have Po:q<=top:=by
  have h3:=g.hq;have h4:q*1<=q*f1:=ob q O';omega
 have hr:=g.hr;have iw:=g.ge;by_cases hb:4294967296<=q
 ·obtain⟨y1,y2,y3⟩:=g.next hU b6 a1 cg g2 (Or.inl hb)
  repeat' (first|apply AG<;>intro hc<;>try omega|apply BS;omega|apply HW;omega|(apply KU;omega;omega)|apply B7;omega|refine A5 V' ?_ rfl ?_;omega|apply AE)<;>conv=>whnf
  ·obtain⟨t1,t2⟩:=YI hU b6 b5 uw k4 g2 y2 (Or.inr O')
   exact BB [] E' (mB (w:=w) (C:=C) hA hW D2 ib je xg cg fe qh Ld Kr t1 y3 t2 hk)
  ·exact BB [] E' (gv (q-1) (r+f1) O' ⟨y2,O',y3⟩)
 ·have hmq:=YU (show q<4294967296 by omega) k4
  by_cases w7:r*4294967296+u2<q*f2
  ·obtain⟨y1,y2,y3⟩:=g.next hU b6 a1 cg g2 (Or.inr w7)
   repeat' (first|apply AG<;>intro hc<;>try omega|apply A4;omega|apply AR;omega|apply BS;omega|apply HW;omega|apply QM;omega|apply OI;omega|apply QN;omega|(apply KU;omega;omega)|apply B7;omega|refine A5 V' ?_ rfl ?_;omega|refine LW V' ?_|apply AE)<;>conv=>whnf
   ·obtain⟨t1,t2⟩:=YI hU b6 b5 uw k4 g2 y2 (Or.inr O')
    exact BB [] E' (mB (w:=w) (C:=C) hA hW D2 ib je xg cg fe qh Ld Kr t1 y3 t2 hk)
   ·exact BB [] E' (gv (q-1) (r+f1) O' ⟨y2,O',y3⟩)
  ·obtain⟨t1,t2⟩:=YI hU b6 b5 uw k4 g2 g.hq (Or.inl ⟨O',O'⟩)
   repeat' (first|apply AG<;>intro hc<;>try omega|apply A4;omega|apply AR;omega|apply BS;omega|apply QM;omega|apply OI;omega|apply QN;omega|apply B7;omega|refine A5 V' ?_ rfl ?_;omega|refine LW V' ?_|apply AE)<;>conv=>whnf
   exact BB [] E' (mB (w:=w) (C:=C) hA hW D2 ib je xg cg fe qh Ld Kr t1 iw t2 hk)
end
theorem Aoa{l:u_}(hD:A3 l)(h:l[l.length-1]?=some 0):val l<4294967296^(l.length-1):=by
 have hl:=(zS h).1;have h1:=LQ l (l.length-1) O';have h2:=I4 h;rw[Ma (show l.length<=l.length-1+1 by omega),KR]at h2;rw[h2]at h1;simp only[Ob,Ja]at h1;have h3:=F2 (hD.take (l.length-1));rw[ja,kc O']at h3;omega
theorem wW(N:b7 L){X Y s:Nat}{x u y:u_}(hY:Y≠0)(fj:s<=31)(Ke:A3 u)(Kg:val u=X*2^s)(hU0:u[u.length-1]?=some 0)(qh:x.length+1<=u.length/\u.length<=549755813888)(ib:A3 y)(Kh:val y=Y*2^s)(mf:2<=y.length/\y.length<=x.length)(n2:4294967296^(y.length-1)*2147483648<=val y) :
  AA L Aho [(10,.row 69 0 1 0 u.length),(11,.sl false (y.map AJ)),(9,.int .i64 (s:Int)),(0,.sl false (x.map AJ))] [(69,101021,.rw 1 (u.map AJ))] (QQ EM (.j5 [.sl false ((dg (X/Y)).map AJ),.sl false ((dg (X%Y)).map AJ),.int .i64 0])):=by
 refine DG (λ(_:Nat)=>0) (λ_=>True) (λ_=>[]) (λ_=>[]) 0 trivial ?_;intro _ _ _;repeat' (first|apply AG<;>intro hc<;>try omega|apply AR;omega|apply BS;omega|apply AP|apply AE)<;>conv=>whnf
 refine FJ (enc:=AJ) 0 (u.length-y.length) (by rfl) O' O' ?_;conv=>whnf
 repeat' (first|apply BS;omega|fail)<;>conv=>whnf
 have cg:0<val y:=by
  have:=Yn (y.length-1)
  omega
 have Cg:=F2 ib;generalize hm:u.length-y.length=m at*;have ml:val (u.drop m)<val y:=by
  have h1:(u.drop m).length=y.length:=by simp;omega
  have h2:=Aoa (l:=u.drop m) (Ke.drop _) (by rw[h1,List.getElem?_drop,show m+(y.length-1)=u.length-1 by omega];exact hU0);rw[h1]at h2;omega
 rw[show(u.length:Int)-y.length-1=((m:Nat):Int)-1 by omega];refine F5 (λn _ _=>n) (λ(n:Nat)(o w:u_)=>n<=m/\o.length=u.length/\A3 o/\w.length=m/\A3 w/\val (o.drop n)<val y/\X*2^s=val (o.take n)+4294967296^n*(val (w.drop n)*val y+val (o.drop n))) (λn o w=>[(14,.int .i64 ((n:Int)-1))]) (λn o w=>[(69,101021,.rw 1 (o.map AJ)),(85,85,.rw 1 (w.map AJ))]) m u (Ia m 0) ⟨O',rfl,Ke,Z',K2 _,ml,by rw[<-Kg,Ma (show(Ia m 0).length<=m by simp),KR,Dc,db];exact LQ u m O'⟩ ?_;intro n o w ⟨p1,p2,p3,p4,p5,p6,p7⟩ ih;rcases n with _|j
 ·clear ih
  rw[ya]at p6;rw[dd,ya,ya,KR,db,ie,mc]at p7;have ef:val o=val (o.take y.length):=by
   have h1:=XA o y.length;rcases Dd (val (o.drop y.length))with h2|h2
   ·rw[h2,Ob,Ja]at h1;exact h1
   ·have h3:4294967296^y.length*1<=4294967296^y.length*val (o.drop y.length):=ob _ h2
    omega
  have yp:X/Y=val w/\X%Y=val o/2^s:=by
   obtain⟨z1,z2⟩:=wV (X:=X) (Y:=Y) (qb s);rw[<-z1,<-z2,<-Kh,p7];have e1:(val w*val y+val o)/val y=val w:=by
    rw[Ga,xd cg,yb p6,Ja]
   have e2:(val w*val y+val o)%val y=val o:=by
    rw[Ga,zd,tb p6]
   rw[e1,e2];exact⟨rfl,rfl⟩
  rw[yp.1,yp.2,ef];have hT:=λq=>HY N w q p5 O'
  have dp:(o.take y.length).length<=549755813888:=by rw[ja];omega
  clear p7 yp ml;rw[<-p4];rcases Dd s with h0|h0
  ·subst h0
   have hS:=λq=>zG N (o.take y.length) q 0 (p3.take _) dp O'
   rw[ie,Qe]at hS;rw[ie,gf];repeat' (first|apply AG<;>intro hc<;>try omega|(refine C6 (λ_=>rfl) rfl ?_ ?_;(first|rfl|simp))|apply AE|refine AD (hT _) ?_)<;>conv=>whnf
   refine I6 y.length rfl O' ?_;conv=>whnf
   refine B4.neg O' ?_;conv=>whnf
   refine H3 (enc:=AJ) (λ_=>rfl) O' ?_;conv=>whnf
   rw[ya,wc,show -((0:Nat):Int)=((0:Nat):Int)by omega];(repeat' (refine AD (hS _) ?_<;>conv=>whnf))
   exact AW rfl (eH _ _ _)
  ·have hS:=λq=>Ajh N (o.take y.length) q s (p3.take _) dp O'
   repeat' (first|apply AG<;>intro hc<;>try omega|(refine C6 (λ_=>rfl) rfl ?_ ?_;(first|rfl|simp))|apply AE|refine AD (hT _) ?_)<;>conv=>whnf
   refine I6 y.length rfl O' ?_;conv=>whnf
   refine B4.neg O' ?_;conv=>whnf
   refine H3 (enc:=AJ) (λ_=>rfl) O' ?_;conv=>whnf
   rw[ya,wc];(repeat' (refine AD (hS _) ?_<;>conv=>whnf))
   exact AW rfl (eH _ _ _)
 ·have e3:((j+1:Nat):Int)-1=j:=O'
  rw[e3];obtain⟨A,W,C,hA,hW,rfl⟩:=xN o j (y.length+1) O';obtain⟨g1,g2,g3⟩:=xP hA hW p3 p6 Cg;obtain⟨D1,D2,D3⟩:=wP p3;have yd:val W/val y<4294967296:=(eb cg).2 g2;have Ng:val W=val W/val y*val y+val W%val y:=by rw[Ga];exact(Db _ _).symm
  have Ch:val W%val y<val y:=Pa _ cg;have Ce:X*2^s=val A+4294967296^j*val W+4294967296^j*4294967296*(val (w.drop (j+1))*val y):=by
   rw[p7,Oe,<-g3,Ka];omega
  have si:=xO Ce Ng;have bz:∀q',q'=val W/val y->val ((w.set j q').drop j)=val W/val y+4294967296*val (w.drop (j+1)):=λq' h=>by
   rw[I4 (l:=w.set j q') (d:=q') (by rw[xc O']),vb O',h]
  have hlen:∀W':u_,W'.length=y.length+1->(A++W'++C).length=u.length:=λW' h=>by
   rw[<-p2];simp[h,hW]
  have hl3:u.length=j+(y.length+1)+C.length:=by rw[<-p2];simp[hA,hW];omega
  refine BB [] E' (Ahq (m:=m) (s:=s) (ul:=u.length) (C:=C) hA hW D2 ib mf.1 O' cg O' n2 g2 hl3 p4 O' (λW' q' z1 z2 z3 z4=>?_));obtain⟨t1,t2⟩:=mL (A:=A) (W:=W') (C:=C) (j:=j) hA g1;refine BB [] E' (ih j (A++W'++C) (w.set j q') O' ⟨O',hlen W' z1,(D1.append z2).append D3,by simpa using p4,p5.set _ O',O',?_⟩);rw[t1,t2,bz q' z4,z3];exact si
end Go.e9

namespace Go.e9
open F
attribute [local irreducible] AA AF AX AC B4 AU A7 A8 BV BI B0 DS BG A1 BU CB AB A2 AH pw CG B3 CR DK C2 CO CJ BL CY C3 C4 CX C7
variable {L:Lib}
theorem zF(N:b7 L)(a b:u_)(q1 q2:Bool)(hA:A3 a)(hB:A3 b)(la:a.length<=274877906944)(lb:b.length<=274877906944)(h0:val b≠0) :
  Ev L 109 [.sl q1 (a.map AJ),.sl q2 (b.map AJ)] (.j5 [.sl false ((dg (val a/val b)).map AJ),.sl false ((dg (val a%val b)).map AJ),.int .i64 0]):=by
 have t1:=λq=>HY N a q hA O'
 have t2:=λq=>HY N b q hB O'
 have l1:=FN hA;have l2:=FN hB;have s8:=λq q'=>nA N (dg (val a)) (dg (val b)) q q' (EH _) (EH _) O' O'
 rw[BQ,BQ]at s8;generalize val a=X at*;generalize val b=Y at*;have d1:=EH X;have d2:=EH Y;have v1:=BQ X;have v2:=BQ Y;have hy1:=aF h0;refine Ev.x N.EM rfl rfl ?_;by_cases h1:(dg Y).length=1
 ·obtain⟨y0,rp⟩:∃y0,dg Y=[y0]:=Bb.1 h1
  have ug:Y=y0:=by rw[<-v2,rp];simp[val]
  subst ug;have Fb:Y<4294967296:=d2 Y (by rw[rp];simp);have hyg:(dg Y)[(0:Int).toNat]?=some Y:=by rw[rp];rfl
  have gq:=λq=>Aji N (dg X) Y q d1 O' h0 Fb
  rw[v1]at gq;have te:X%Y<4294967296:=Nat.lt_trans (Pa _ O') Fb;have hT3:=λq=>HY N [X%Y] q (IV te) Z'
  rw[show val [X%Y]=X%Y by simp[val]]at hT3;clear rp v2;generalize dg Y=y at*;repeat' (first|apply AG<;>intro hc<;>try omega|apply AP|refine A5 V' ?_ rfl ?_;omega|refine JP rfl ?_|apply AE|refine AD (t1 _) ?_|refine AD (t2 _) ?_|refine AD (gq _) ?_|refine AD (hT3 _) ?_)<;>conv=>whnf
  exact AW rfl (eH _ _ _)
 by_cases k7:X<Y
 ·rw[<-KB O']at s8
  repeat' (first|apply AG<;>intro hc<;>try omega|apply AP|apply AE|refine AD (t1 _) ?_|refine AD (t2 _) ?_|refine AD (s8 _ _) ?_)<;>conv=>whnf
  refine AW ?_ (eH _ _ _);rw[yb k7,tb k7,FX];rfl
 have iw:=eI (show Y<=X by omega);generalize DL X Y=cm at*;have Pc:2<=(dg Y).length:=O'
 obtain⟨yt,zw,zx⟩:=lZ h0;have xh:=d2.at zw;obtain⟨b1,b2,b3,b4⟩:=pD zx xh;have lf:=λq=>Aje N yt q zx xh
 generalize hs:32-w4 yt=s at*;have fj:s<=31:=O'
 have Qc:=λq=>zG N (dg Y) q s d2 O' O'
 obtain⟨n1,n2⟩:=oU d2 zw O' fj b3 b4;rw[v2]at Qc n1 n2;have ef:(dg Y).drop ((dg Y).length-1)=[yt]:=by
  obtain⟨hi,he⟩:=zS zw;rw[List.drop_eq_getElem_cons hi,he,Ma O']
 have mf:(dg (Y*2^s)).length=(dg Y).length:=by
  have a1:=NV.2 n1;have a2:¬(dg (Y*2^s)).length<=(dg Y).length-1:=λh=>by
   have:=NV.1 h
   omega
  omega
 have ABo:(dg (X*2^s)).length<=(dg X).length+1:=by
  refine NV.2 ?_;have a1:X<4294967296^(dg X).length:=NV.1 (ea _);rw[Ka];have a2:=bT (s:=s) O';exact Cb (ec a1 (qb s)) (ob _ a2)
 have Ee:(dg X).length<=(dg (X*2^s)).length:=R8 (Nat.le_mul_of_pos_right _ (qb s));have ub:=R8 (show Y<=X by omega);generalize hx:dg X=x at*;generalize hy:dg Y=y at*;have t3:=λq=>HY N x q d1 O'
 rw[v1,hx]at t3;repeat' (first|apply AG<;>intro hc<;>try omega|apply BS;omega|apply AP|apply AE|refine AD (t1 _) ?_|refine AD (t2 _) ?_|refine AD (s8 _ _) ?_)<;>conv=>whnf
 rw[show(y.length:Int)-1=((y.length-1:Nat):Int)by omega];refine Afn (k:=y.length-1) (λ_=>rfl) O' ?_;conv=>whnf
 rw[ef];repeat' (first|apply BS;omega|refine AD (lf _) ?_)<;>conv=>whnf
 rw[show(32:Int)-(w4 yt:Nat)=((s:Nat):Int)by omega];refine I7 1000 N.JY rfl rfl ?_;have Kz:(s:Int)/32=((0:Nat):Int):=O'
 have hsr:(s:Int)%32=((s:Nat):Int):=O'
 repeat' (first|apply AG<;>intro hc<;>try omega|(refine KV ?_ ?_ (λ_=>?_) (λ_ _=>?_);omega;omega;all_goals try omega)|apply AP|apply AE|refine AD (t3 _) ?_)<;>conv=>whnf
 rw[Kz];refine FJ (enc:=AJ) 0 0 rfl rfl O' ?_;conv=>whnf
 skip
 refine F5 (λi _ _=>x.length-i) (λ(i:Nat)(o:u_)(c:Nat)=>i<=x.length/\o.length=i/\A3 o/\c<2^s/\val o+4294967296^i*c=val (x.take i)*2^s) (λi o c=>[(10,.int .i64 i),(9,.int .u64 (c:Int)),(8,.row 107069 0 1 0 i)]) (λi o c=>[(107069,107069,.rw 1 (o.map AJ))]) 0 [] 0 ⟨O',rfl,X7,qb _,by simp[val]⟩ ?_;intro i o c ⟨p1,p2,p3,p4,p5⟩ ih;have qg:=bT (s:=s) O';by_cases hi:i<x.length
 ·obtain⟨d,hd⟩:=N' x i hi
  have bn:=d1.at hd;obtain⟨f1,f2,f3,f4⟩:=WY (s:=s) bn O';have hr:=iF (show s<=64 by omega) f4;repeat' (first|apply AG<;>intro hc<;>try omega|(refine I9 ?_ (λ_ _ _=>?_) (λ_ _ _ _=>?_);omega;all_goals try omega)|apply B7;omega|apply AP|refine A5 V' ?_ rfl ?_;omega|apply AE)<;>conv=>whnf
  rw[hsr];refine QP O' f4 ?_;conv=>whnf
  skip
  refine dI s (Fc _ _) p4 O' ?_;conv=>whnf
  have o7:=Zy (d:=d) (P:=1) (V:=val o) (p:=4294967296^i) (lo:=c) (X:=val (x.take i)) (s:=s) (by rw[mc,mc];exact p5) rfl;have tu:(c+d*2^s)/4294967296<2^s:=by
   rw[eb O'];have:=zR (2^s) (show d<=4294967295 by omega)
   omega
  generalize c+d*2^s=t at*;repeat' (first|apply G7|apply CT)<;>conv=>whnf
  refine DH (enc:=AJ) (t%4294967296) rfl p2.symm rfl O' O' ?_;conv=>whnf
  repeat' (first|apply AR;omega|apply GQ)<;>conv=>whnf
  rw[show(o++[t%4294967296]).length=i+1 by simp[p2]];refine BB [(107069,107091)] E' (ih (i+1) (o++[t%4294967296]) (t/4294967296) O' ⟨O',by simp;omega,p3.append (IV O'),tu,?_⟩);rw[OE,p2,ER hd,Ka];rw[mc,mc]at o7;exact o7
 obtain rfl:i=x.length:=O'
 clear ih;have ur:c<4294967296:=O'
 have hOD:A3 (o++[c]):=p3.append (IV ur);have Ge:val (o++[c])=X*2^s:=by
  rw[OE,p2,p5,DQ (ea _),v1]
 have Gd:(o++[c]).length=x.length+1:=by simp[p2]
 repeat' (first|apply AG<;>intro hc<;>try omega|apply E3;omega|apply AP|apply CT|apply AE)<;>conv=>whnf
 refine DH (enc:=AJ) c rfl p2.symm rfl O' O' ?_;conv=>whnf
 rw[Gd];generalize o++[c]=O at*;rw[<-Gd];clear p3 p4 p5;refine I7 1000 N.JZ rfl rfl ?_;(repeat' (apply AE<;>conv=>whnf))
 refine DG (λn=>n) (λ(n:Nat)=>n<=(O).length/\∀i,n<=i->i<(O).length->(O)[i]?=some 0) (λn=>[(3,.int .i64 n)]) (λ_=>[]) (O).length ⟨ea _,λi h1 h2=>O'⟩ ?_;intro n ⟨p1,p2⟩ ih;rcases n with _|n
 ·repeat' (first|apply AG<;>intro hc<;>try omega|apply AE)<;>conv=>whnf
  refine I6 0 O' O' ?_;conv=>whnf
  have fh:=H5 (l:=O) V' p1 p2 (Or.inl rfl);have u6:(dc 0 O).length<=(O).length:=by rw[ja];omega
  clear ih p2;refine dO (enc:=AJ) O' ?_;conv=>whnf
  rw[ya,wc];generalize Ea:dc 0 O=T0 at*;refine RQ (enc:=AJ) (λ_=>rfl) O' O' ?_;conv=>whnf
  refine⟨rfl,_,rfl,?_⟩;conv=>whnf
  (refine⟨rfl,_,rfl,?_⟩;(conv=>whnf);(repeat' (first|apply CT|refine AD (Qc _) ?_)<;>conv=>whnf);refine DH (enc:=AJ) 0 rfl rfl rfl O' O' ?_;(conv=>whnf);rw[Ge]at fh;rw[fh];exact BB [] E' (wW N (x:=x) (X:=X) (Y:=Y) (s:=s) (u:=dg (X*2^s)++[0]) (y:=dg (Y*2^s)) h0 fj ((EH _).append (IV O')) (by rw[OE,BQ,Ob,Ja]) Z' K' (EH _) (BQ _) O' (by rw[BQ,mf];exact n2)))
 ·have e1:((n+1:Nat):Int)-1=n:=O'
  repeat' (first|apply AG<;>intro hc<;>try omega|apply A4;omega|apply BS;omega|refine VD V' ?_ (λv hv hb=>?_);omega|apply AE)<;>conv=>whnf
  ·rw[e1]
   exact BF [] (ih n O' ⟨O',λi h1 h2=>by
    by_cases h:i=n
    ·subst h
     rw[e1,Da]at hv;rw[hv];congr 1;omega
    ·exact p2 i O' h2⟩)
  ·refine I6 (n+1) O' O' ?_
   (conv=>whnf)
   rw[e1,Da]at hv;have fh:=H5 (l:=O) V' p1 p2 (Or.inr ⟨_,hv,O'⟩);have u6:(dc (n+1) O).length<=(O).length:=by rw[ja];omega
   clear ih p2 hv;(rw[uS (l:=O)];rotate_left;exact rfl;exact rfl);conv=>whnf
   refine dO (enc:=AJ) O' ?_;conv=>whnf
   rw[ya,wc];generalize Ea:dc (n+1) O=T0 at*;refine RQ (enc:=AJ) (λ_=>rfl) O' O' ?_;conv=>whnf
   refine⟨rfl,_,rfl,?_⟩;conv=>whnf
   (refine⟨rfl,_,rfl,?_⟩;(conv=>whnf);(repeat' (first|apply CT|refine AD (Qc _) ?_)<;>conv=>whnf);refine DH (enc:=AJ) 0 rfl rfl rfl O' O' ?_;(conv=>whnf);rw[Ge]at fh;rw[fh];exact BB [] E' (wW N (x:=x) (X:=X) (Y:=Y) (s:=s) (u:=dg (X*2^s)++[0]) (y:=dg (Y*2^s)) h0 fj ((EH _).append (IV O')) (by rw[OE,BQ,Ob,Ja]) Z' K' (EH _) (BQ _) O' (by rw[BQ,mf];exact n2)))
theorem Ajf(N:b7 L)(a b:u_)(q1 q2:Bool)(hA:A3 a)(hB:A3 b)(la:a.length<=274877906944)(lb:b.length<=274877906944) :
  Ev L 110 [.sl q1 (a.map AJ),.sl q2 (b.map AJ)] (.sl false ((dg (Qa (val a) (val b))).map AJ)):=by
 have t1:=λq=>HY N a q hA O'
 have t2:=λq=>HY N b q hB O'
 have l1:=FN hA;have l2:=FN hB;generalize val a=X at*;generalize val b=Y at*;refine Ev.x N.PP rfl rfl ?_;repeat' (first|apply AE|refine AD (t1 _) ?_|refine AD (t2 _) ?_)<;>conv=>whnf
 refine EE (λ_ y=>y) (λ(x y:Nat)=>(dg x).length<=274877906944/\(dg y).length<=274877906944/\Qa x y=Qa X Y) (λx y=>[(0,.sl false ((dg x).map AJ)),(1,.sl false ((dg y).map AJ))]) (λ_ _=>[]) X Y ⟨O',O',rfl⟩ ?_;intro x y ⟨p1,p2,p3⟩ ih;rw[<-p3];by_cases h0:y=0
 ·subst h0
  have nc:(dg 0).length=0:=by rw[FX];rfl
  clear ih;rw[Ed];repeat' (first|apply AG<;>intro hc<;>try omega|apply AP|apply AE)<;>conv=>whnf
  exact AW rfl (L1 _)
 ·have hp:=aF h0
  have hD:=λq q'=>zF N (dg x) (dg y) q q' (EH _) (EH _) p1 p2 (by rw[BQ];exact h0)
  rw[BQ,BQ]at hD;have k7:x%y<y:=Pa _ O';have ux:=R8 (Cc k7);repeat' (first|apply AG<;>intro hc<;>try omega|apply AP|apply AE|refine AD (hD _ _) ?_)<;>conv=>whnf
  rw[p3];exact BF [] (ih y (x%y) k7 ⟨p2,O',by rw[aU];exact p3⟩)
theorem L3(N:b7 L)(n q:Bool)(m:u_)(hm:Sm 274877906944 m):Ev L 111 [.agg (rZ q n m)] (.agg (eZ (zv n m))):=by
 have hT:=λq=>HY N m q hm.1 (by have:=hm.2;omega)
 have hz:=IU (val m);have ha:=FV n m;refine Ev.x N.UA rfl rfl ?_;cases n
 ·rw[FI]at*
  repeat' (first|apply AE|refine AD (hT _) ?_)<;>conv=>whnf
  exact AW (FK ha.symm (GF O')) (D8 _)
 ·rw[OH]at*
  repeat' (first|apply AG<;>intro hc<;>try omega|apply AP|apply AE|refine AD (hT _) ?_)<;>conv=>whnf
  ·exact AW (FK ha.symm (MC O')) (D8 _)
  ·exact AW (FK ha.symm (GF O')) (D8 _)
theorem nD(N:b7 L)(n q:Bool)(m:u_)(hm:Sm 274877906944 m):Ev L 113 [.agg (rZ q n m)] (.int .i64 (w6 (zv n m))):=by
 have hT:=λq=>L3 N n q m hm
 generalize zv n m=z at*;have hz:=IU z.natAbs;refine Ev.x N.T8 rfl rfl ?_;repeat' (first|apply AG<;>intro hc<;>try omega|apply AP|apply AE|refine AD (hT _) ?_)<;>conv=>whnf
 ·exact BP (jK O')
 ·cases hd:decide (z<0)
  ·(conv=>whnf)
   exact BP (rP (by have:=of_decide_eq_false hd;omega))
  ·(conv=>whnf)
   exact BP (rO (of_decide_eq_true hd))
theorem zJ(N:b7 L)(n q:Bool)(m:u_)(hm:Sm 274877906944 m):Ev L 114 [.agg (rZ q n m)] (.agg (eZ (-(zv n m)))):=by
 have hT:=λq=>L3 N n q m hm
 generalize zv n m=z at*;have hz:=IU z.natAbs;refine Ev.x N.T6 rfl rfl ?_;repeat' (first|apply AE|refine AD (hT _) ?_)<;>conv=>whnf
 cases hd:decide (z<0)
 ·have h1:=of_decide_eq_false hd
  (conv=>whnf)
  repeat' (first|apply AG<;>intro hc<;>try omega|apply AP)<;>conv=>whnf
  ·exact AW (FK O' (MC O')) (D8 _)
  ·exact AW (FK O' (GF O')) (D8 _)
 ·have h1:=of_decide_eq_true hd
  (conv=>whnf)
  skip
  exact AW (FK O' (GF O')) (D8 _)
theorem V7(N:b7 L)(n1 n2 q1 q2:Bool)(a b:u_)(ha:A3 a)(hb:A3 b)(hl:a.length+b.length<=274877906944):Ev L 118 [.agg (rZ q1 n1 a),.agg (rZ q2 n2 b)] (.agg (eZ (zv n1 a*zv n2 b))):=by
 have h1:=λq q'=>Ajg N a b q q' ha hb O'
 have sa:Sm a.length a:=⟨ha,ea _⟩;have sb:Sm b.length b:=⟨hb,ea _⟩;have hT:=λn q=>L3 N n q (dg (val a*val b)) ((sa.mul sb rfl).le hl)
 have e:∀n,zv n (dg (val a*val b))=bif n then -((val a*val b:Nat):Int)else((val a*val b:Nat):Int):=λn=>by unfold zv;rw[BQ]
 have e2:zv n1 a*zv n2 b=zv (n1 != n2) (dg (val a*val b)):=by
  rw[e];cases n1<;>cases n2<;>simp[FI,OH,Md,af]
 rw[e2];refine Ev.x N.T5 rfl rfl ?_;cases n1<;>cases n2;all_goals
  repeat' (first|apply AE|refine AD (h1 _ _) ?_|refine AD (hT _ _) ?_)<;>conv=>whnf
  exact AW rfl (D8 _)
theorem zH(N:b7 L)(n1 n2 q1 q2:Bool)(a b:u_)(ha:Sm 274877906943 a)(hb:Sm 274877906943 b):Ev L 115 [.agg (rZ q1 n1 a),.agg (rZ q2 n2 b)] (.agg (eZ (zv n1 a+zv n2 b))):=by
 have t1:=λq=>L3 N n1 q a (ha.le O')
 have t2:=λq=>L3 N n2 q b (hb.le O')
 have s1:Sm 274877906943 (dg (zv n1 a).natAbs):=by rw[FV];exact ha.yf
 have s2:Sm 274877906943 (dg (zv n2 b).natAbs):=by rw[FV];exact hb.yf
 generalize zv n1 a=x at*;generalize zv n2 b=y at*;have h1:=λq q'=>zD N (dg x.natAbs) (dg y.natAbs) q q' s1.1 s2.1 (by have:=s1.2;omega) (by have:=s2.2;omega)
 have h2:=λq q'=>nB N (dg x.natAbs) (dg y.natAbs) q q' s1.1 s2.1 (by have:=s1.2;omega) (by have:=s2.2;omega)
 have h3:=λq q'=>nB N (dg y.natAbs) (dg x.natAbs) q q' s2.1 s1.1 (by have:=s2.2;omega) (by have:=s1.2;omega)
 have s8:=λq q'=>nA N (dg x.natAbs) (dg y.natAbs) q q' s1.1 s2.1 (by have:=s1.2;omega) (by have:=s2.2;omega)
 rw[BQ,BQ]at h1 h2 h3 s8;have u1:=λn q=>L3 N n q (dg (x.natAbs+y.natAbs)) (s1.add s2 (by rw[BQ,BQ];omega))
 have u2:=λn q=>L3 N n q (dg (x.natAbs-y.natAbs)) ((s1.low (V:=x.natAbs-y.natAbs) (by rw[BQ];omega)).le O')
 have u3:=λn q=>L3 N n q (dg (y.natAbs-x.natAbs)) ((s2.low (V:=y.natAbs-x.natAbs) (by rw[BQ];omega)).le O')
 have e:∀n V,zv n (dg V)=bif n then -(V:Int)else(V:Int):=λn V=>by unfold zv;rw[BQ]
 refine Ev.x N.TY rfl rfl ?_;repeat' (first|apply AE|refine AD (t1 _) ?_|refine AD (t2 _) ?_)<;>conv=>whnf
 cases hx:decide (x<0)<;>cases hy:decide (y<0)
 ·have g1:=of_decide_eq_false hx
  have g2:=of_decide_eq_false hy;have hz:x+y=zv false (dg (x.natAbs+y.natAbs)):=by rw[e];simp only[cond_true,cond_false];omega
  rw[hz];conv=>whnf
  repeat' (first|refine AD (h1 _ _) ?_|refine AD (u1 _ _) ?_)<;>conv=>whnf
  exact AW rfl (D8 _)
 ·have g1:=of_decide_eq_false hx
  have g2:=of_decide_eq_true hy;by_cases k7:x.natAbs<y.natAbs
  ·have hz:x+y=zv true (dg (y.natAbs-x.natAbs)):=by rw[e];simp only[cond_true,cond_false];omega
   rw[hz];rw[<-KB O']at s8;conv=>whnf
   repeat' (first|apply AG<;>intro hc<;>try omega|refine AD (s8 _ _) ?_|refine AD (h3 _ _) ?_|refine AD (u3 _ _) ?_)<;>conv=>whnf
   exact AW rfl (D8 _)
  ·have hz:x+y=zv false (dg (x.natAbs-y.natAbs)):=by rw[e];simp only[cond_true,cond_false];omega
   rw[hz];have iw:=eI (show y.natAbs<=x.natAbs by omega);generalize DL (x.natAbs:Nat) (y.natAbs:Nat)=cm at*;conv=>whnf
   repeat' (first|apply AG<;>intro hc<;>try omega|refine AD (s8 _ _) ?_|refine AD (h2 _ _) ?_|refine AD (u2 _ _) ?_)<;>conv=>whnf
   exact AW rfl (D8 _)
 ·have g1:=of_decide_eq_true hx
  have g2:=of_decide_eq_false hy;by_cases k7:x.natAbs<y.natAbs
  ·have hz:x+y=zv false (dg (y.natAbs-x.natAbs)):=by rw[e];simp only[cond_true,cond_false];omega
   rw[hz];rw[<-KB O']at s8;conv=>whnf
   repeat' (first|apply AG<;>intro hc<;>try omega|refine AD (s8 _ _) ?_|refine AD (h3 _ _) ?_|refine AD (u3 _ _) ?_)<;>conv=>whnf
   exact AW rfl (D8 _)
  ·have hz:x+y=zv true (dg (x.natAbs-y.natAbs)):=by rw[e];simp only[cond_true,cond_false];omega
   rw[hz];have iw:=eI (show y.natAbs<=x.natAbs by omega);generalize DL (x.natAbs:Nat) (y.natAbs:Nat)=cm at*;conv=>whnf
   repeat' (first|apply AG<;>intro hc<;>try omega|refine AD (s8 _ _) ?_|refine AD (h2 _ _) ?_|refine AD (u2 _ _) ?_)<;>conv=>whnf
   exact AW rfl (D8 _)
 ·have g1:=of_decide_eq_true hx
  have g2:=of_decide_eq_true hy;have hz:x+y=zv true (dg (x.natAbs+y.natAbs)):=by rw[e];simp only[cond_true,cond_false];omega
  rw[hz];conv=>whnf
  repeat' (first|refine AD (h1 _ _) ?_|refine AD (u1 _ _) ?_)<;>conv=>whnf
  exact AW rfl (D8 _)
theorem Ajl(N:b7 L)(n1 n2 q1 q2:Bool)(a b:u_)(ha:Sm 274877906943 a)(hb:Sm 274877906943 b):Ev L 116 [.agg (rZ q1 n1 a),.agg (rZ q2 n2 b)] (.agg (eZ (zv n1 a-zv n2 b))):=by
 have t2:=λq=>zJ N n2 q b (hb.le O')
 have s2:Sm 274877906943 (dg (-(zv n2 b)).natAbs):=by rw[Rg,FV];exact hb.yf
 have h1:=λq q'=>zH N n1 (decide (-(zv n2 b)<0)) q q' a (dg (-(zv n2 b)).natAbs) ha s2
 rw[GW,<-Nf]at h1;refine Ev.x N.T9 rfl rfl ?_;repeat' (first|apply AE|refine AD (t2 _) ?_|refine AD (h1 _ _) ?_)<;>conv=>whnf
 exact AW rfl (D8 _)
theorem Ajj(N:b7 L)(n1 n2 q1 q2:Bool)(a b:u_)(ha:Sm 274877906943 a)(hb:Sm 274877906943 b):Ev L 117 [.agg (rZ q1 n1 a),.agg (rZ q2 n2 b)] (.int .i64 (w6 (zv n1 a-zv n2 b))):=by
 have h1:=λq q'=>Ajl N n1 n2 q q' a b ha hb
 have s1:Sm 274877906943 (dg (zv n1 a).natAbs):=by rw[FV];exact ha.yf
 have s2:Sm 274877906943 (dg (zv n2 b).natAbs):=by rw[FV];exact hb.yf
 have s3:Sm 274877906944 (dg (zv n1 a-zv n2 b).natAbs):=s1.add s2 (by rw[BQ,BQ];omega);have h2:=λq=>nD N (decide (zv n1 a-zv n2 b<0)) q (dg (zv n1 a-zv n2 b).natAbs) s3
 rw[GW]at h2;refine Ev.x N.TZ rfl rfl ?_;repeat' (first|apply AE|refine AD (h1 _ _) ?_|refine AD (h2 _) ?_)<;>conv=>whnf
 exact BP rfl
theorem nC(N:b7 L)(z:Int)(hz:-9223372036854775808<=z/\z<=9223372036854775807):Ev L 112 [.int .i64 z] (.agg (eZ z)):=by
 have two:∀k:Nat,k<18446744073709551616->∀n q,Ev L 111 [.agg [.bool n,.sl q [[.int .u32 ((k%4294967296:Nat):Int)],[.int .u32 ((k/4294967296:Nat):Int)]]]] (.agg (eZ (bif n then -(k:Int)else(k:Int)))):=λk hk n q=>by
  have:=L3 N n q [k%4294967296,k/4294967296] ⟨(lW hk).2,Z'⟩
  unfold zv at this;rw[AdY hk]at this;exact this
 refine Ev.x N.T7 rfl rfl ?_;by_cases h0:0<=z
 ·obtain⟨k,rfl⟩:=rb h0
  have hT:=two k O';repeat' (first|apply AG<;>intro hc<;>try omega|apply GQ|apply B7;omega|apply E3;omega|apply G7|refine ZZ rfl rfl ?_|apply AE)<;>conv=>whnf
  generalize k%4294967296=lo at*;generalize k/4294967296=hi at*;(repeat' (refine AD (hT _ _) ?_<;>conv=>whnf))
  exact AW rfl (D8 _)
 ·obtain⟨k,hk⟩:=rb (show 0 <= -(z+1)by omega)
  have ka:z = -((k+1:Nat):Int):=O'
  have hT:=two (k+1) O';repeat' (first|apply AG<;>intro hc<;>try omega|apply AR;omega|apply kQ|apply B4.neg;omega|apply B7;omega|apply AE)<;>conv=>whnf
  rw[show IntKind.u64.wrap (-(z+1)+1)=((k+1:Nat):Int)by rw[IntWalk.u64_in _ O'];omega];rw[ka];generalize k+1=k1 at*;repeat' (first|apply GQ|apply E3;omega|apply G7|refine ZZ rfl rfl ?_)<;>conv=>whnf
  generalize k1%4294967296=lo at*;generalize k1/4294967296=hi at*;(repeat' (refine AD (hT _ _) ?_<;>conv=>whnf))
  exact AW rfl (D8 _)
theorem Ajk(N:b7 L)(n1 n2 q1 q2:Bool)(a b:u_)(ha:Sm 274877906944 a)(hb:Sm 274877906944 b):Ev L 120 [.agg (rZ q1 n1 a),.agg (rZ q2 n2 b)] (.agg (eZ ((Qa (val a) (val b):Nat):Int))):=by
 have h1:=λq q'=>Ajf N a b q q' ha.1 hb.1 ha.2 hb.2
 refine Ev.x N.T4 rfl rfl ?_;repeat' (first|apply AE|refine AD (h1 _ _) ?_)<;>conv=>whnf
 exact AW (FK O' (GF O')) (D8 _)
theorem Aig(n1 n2:Bool)(A B:Nat)(hB:B≠0):(bif n1 then -(A:Int)else(A:Int))/(bif n2 then -(B:Int)else(B:Int))=(bif n1 != n2 then -((if n1=true/\A%B≠0 then A/B+1 else A/B:Nat):Int)else((if n1=true/\A%B≠0 then A/B+1 else A/B:Nat):Int)) /\
  (bif n1 then -(A:Int)else(A:Int))%(bif n2 then -(B:Int)else(B:Int))=((if n1=true/\A%B≠0 then B-A%B else A%B:Nat):Int):=by
 have hBp:(0:Int)<B:=O'
 have key:∀x:Int,x/(bif n2 then -(B:Int)else(B:Int))=(bif n2 then -(x/B)else x/B)/\x%(bif n2 then -(B:Int)else(B:Int))=x%B:=λx=>by
  cases n2
  ·exact⟨rfl,rfl⟩
  ·exact⟨Int.ediv_neg x B,Int.emod_neg x B⟩
 rw[(key _).1,(key _).2];cases n1
 ·have h1:((A:Int))/B=((A/B:Nat):Int):=Z'
  have h2:((A:Int))%B=((A%B:Nat):Int):=Z'
  simp only[cond_false,h1,h2];cases n2<;>simp
 ·have hd:=Db A B
  have k7:=Pa A (show B>0 by omega);by_cases h0:A%B=0
  ·have e:-(A:Int)=(B:Int)*(-((A/B:Nat):Int)):=by
    rw[h0,Ja]at hd;rw[Md,<-fc,hd]
   have h1:-(A:Int)/B = -((A/B:Nat):Int):=by rw[e,Qb _ O']
   have h2:-(A:Int)%B=0:=by rw[e,Int.mul_emod_right]
   simp only[cond_true,h1,h2,h0];cases n2<;>simp
  ·have e:-(A:Int)=(B:Int)*(-((A/B+1:Nat):Int))+((B-A%B:Nat):Int):=by
    have h3:(B:Int)*((A/B:Nat):Int)+((A%B:Nat):Int)=A:=by rw[<-fc,<-kd,hd]
    rw[Md,kd,Int.mul_add];omega
   have h1:-(A:Int)/B = -((A/B+1:Nat):Int):=by
    rw[e,Int.mul_add_ediv_left _ _ O',Int.ediv_eq_zero_of_lt O' O',sf]
   have h2:-(A:Int)%B=((B-A%B:Nat):Int):=by
    rw[e,Int.mul_add_emod_self_left,Int.emod_eq_of_lt O' O']
   simp only[cond_true,h1,h2];cases n2<;>simp[h0]
theorem zI(N:b7 L)(n1 n2 q1 q2:Bool)(a b:u_)(ha:Sm 274877906943 a)(hb:Sm 274877906943 b)(h0:zv n2 b≠0):Ev L 119 [.agg (rZ q1 n1 a),.agg (rZ q2 n2 b)] (.j5 [.agg (eZ (zv n1 a/zv n2 b)),.agg (eZ (zv n1 a%zv n2 b)),.int .i64 0]):=by
 have t1:=λq=>L3 N n1 q a (ha.le O')
 have t2:=λq=>L3 N n2 q b (hb.le O')
 have s1:Sm 274877906943 (dg (zv n1 a).natAbs):=by rw[FV];exact ha.yf
 have s2:Sm 274877906943 (dg (zv n2 b).natAbs):=by rw[FV];exact hb.yf
 generalize zv n1 a=x at*;generalize zv n2 b=y at*;have Dz:=λq q'=>zF N (dg x.natAbs) (dg y.natAbs) q q' s1.1 s2.1 (by have:=s1.2;omega) (by have:=s2.2;omega) (by rw[BQ];omega)
 rw[BQ,BQ]at Dz;obtain⟨e1,e2⟩:=Aig (decide (x<0)) (decide (y<0)) x.natAbs y.natAbs O';have hx:(bif decide (x<0)then -(x.natAbs:Int)else(x.natAbs:Int))=x:=by have:=GW x;unfold zv at this;rw[BQ]at this;exact this
 have hy:(bif decide (y<0)then -(y.natAbs:Int)else(y.natAbs:Int))=y:=by have:=GW y;unfold zv at this;rw[BQ]at this;exact this
 rw[hx,hy]at e1 e2;rw[e1,e2];have l1:=s1.2;have l2:=s2.2;have hq:Sm 274877906943 (dg (x.natAbs/y.natAbs)):=s1.low (by rw[BQ];exact pg _ _);have hr:Sm 274877906943 (dg (x.natAbs%y.natAbs)):=s2.low (by rw[BQ];exact Cc (Pa _ O'));have hrz:=IU (x.natAbs%y.natAbs);have mb:Ev L 103 [.sl false ((dg (x.natAbs/y.natAbs)).map AJ),.sl true [[.int .u32 1]]] (.sl false ((dg (x.natAbs/y.natAbs+1)).map AJ)):=by
  have:=zD N (dg (x.natAbs/y.natAbs)) [1] false true (EH _) (IV O') (by have:=hq.2;omega) Z'
  rw[BQ,show val [1]=1 from rfl]at this;exact this
 have yc:Sm 274877906944 (dg (x.natAbs/y.natAbs+1)):=hq.add (b:=[1]) (rS O' O') (by rw[BQ];simp[val]);have Io:=λq q'=>nB N (dg y.natAbs) (dg (x.natAbs%y.natAbs)) q q' s2.1 hr.1 O' (by have:=hr.2;omega)
 rw[BQ,BQ]at Io;have u1:=λn q=>L3 N n q (dg (x.natAbs/y.natAbs)) (hq.le O')
 have u2:=λn q=>L3 N n q (dg (x.natAbs/y.natAbs+1)) yc
 have ez:∀n V,zv n (dg V)=bif n then -(V:Int)else(V:Int):=λn V=>by unfold zv;rw[BQ]
 have fin:∀(z:Int)(V:Nat),AH (.j5 [.agg (eZ z),.agg [.bool false,.sl false ((dg V).map AJ)],.int .i64 0]) (.j5 [.agg (eZ z),.agg (eZ (V:Int)),.int .i64 0]):=λz V=>by
  have e3:AV.agg (eZ (V:Int)) = .agg [.bool false,.sl false ((dg V).map AJ)]:=(FK O' (GF O')).symm;rw[e3];refine AW rfl ?_;simp only[AY,BK,and_true,true_and];exact⟨C8 _,C8 _⟩
 clear e1 e2 hx hy;generalize x.natAbs/y.natAbs=qq at*;generalize x.natAbs%y.natAbs=rr at*;refine Ev.x N.T3 rfl rfl ?_;repeat' (first|apply AG<;>intro hc<;>try omega|apply AE|refine AD (t1 _) ?_|refine AD (t2 _) ?_|refine AD (Dz _ _) ?_)<;>conv=>whnf
 generalize decide (x<0)=p at*;generalize decide (y<0)=r at*;cases p
 ·rw[if_neg Z',if_neg Z',<-ez]
  cases r;all_goals
   (conv=>whnf)
   (repeat' (refine AD (u1 _ _) ?_<;>conv=>whnf))
   exact fin _ _
 ·by_cases td:rr=0
  ·rw[if_neg (by simp[td]),if_neg (by simp[td]),<-ez]
   cases r;all_goals
    (conv=>whnf)
    repeat' (first|apply AG<;>intro hc<;>try omega|apply AP|refine AD (u1 _ _) ?_)<;>conv=>whnf
    exact fin _ _
  ·rw[if_pos ⟨rfl,td⟩,if_pos ⟨rfl,td⟩,<-ez]
   cases r;all_goals
    (conv=>whnf)
    repeat' (first|apply AG<;>intro hc<;>try omega|apply AP|refine JP rfl ?_|refine AD (mb) ?_|refine AD (Io _ _) ?_|refine AD (u2 _ _) ?_)<;>conv=>whnf
    exact fin _ _
theorem wO:dg 1=[1]:=by rw[K0 O'];simp[FX]
theorem uQ:AV.agg [.bool false,.sl false [],.sl false [[.int .u32 1]]] = .agg (eQ 0):=by
 show _=AV.agg (rQ _ _ _ _ _);rw[Rat.zero_num,Rat.zero_den,wO,show(0:Int).natAbs=0 from rfl,FX];rfl
theorem Ahk{x y:Int}(hy:y≠0):(Oc x y).num=(if y<0 then -(x/((Qa x.natAbs y.natAbs:Nat):Int))else x/((Qa x.natAbs y.natAbs:Nat):Int))/\(Oc x y).den=(y/((Qa x.natAbs y.natAbs:Nat):Int)).natAbs:=by
 have h1:=Rat.num_divInt x y;have h2:=Rat.den_divInt x y;rw[if_neg hy]at h2;have hg:zh y x=Qa x.natAbs y.natAbs:=by rw[zh,tf]
 rw[hg]at h1 h2;have Oo:0<Qa x.natAbs y.natAbs:=vf _ O';have dx:((Qa x.natAbs y.natAbs:Nat):Int) ∣ x:=Mf.2 (Nat.gcd_dvd_left _ _);have dy:((Qa x.natAbs y.natAbs:Nat):Int) ∣ y:=Mf.2 (Nat.gcd_dvd_right _ _);generalize Qa x.natAbs y.natAbs=g at*;rw[h1,h2];obtain⟨u,rfl⟩:=dx;obtain⟨v,rfl⟩:=dy;have Ct:(g:Int)≠0:=O'
 refine⟨?_,?_⟩
 ·rw[Qb _ Ct]
  split
  ·rename_i h
   rw[De h,show -1*((g:Int)*u)=g*(-u)by rw[Md];omega,Qb _ Ct]
  ·rw[Bc O',df,Qb _ Ct]
 ·rw[Qb _ Ct,Lb,Mc,Nat.mul_div_cancel_left _ Oo]
theorem fX(N:b7 L)(n1 n2 q1 q2:Bool)(a b:u_)(ha:Sm 274877906943 a)(hb:Sm 274877906943 b):Ev L 121 [.agg (rZ q1 n1 a),.agg (rZ q2 n2 b)] (.agg (eQ (Oc (zv n1 a) (zv n2 b)))):=by
 have t1:=λq=>nD N n1 q a (ha.le O')
 have t2:=λq=>nD N n2 q b (hb.le O')
 by_cases h1:zv n1 a=0
 ·rw[h1,Rat.zero_divInt,<-uQ]
  rw[h1,<-jK rfl]at t1;refine Ev.x N.NK rfl rfl ?_;repeat' (first|apply AG<;>intro hc<;>try omega|refine JP rfl ?_|apply AE|refine AD (t1 _) ?_)<;>conv=>whnf
  exact AW rfl (eE false [] [1])
 have s1:w6 (zv n1 a)≠0:=by unfold w6;split<;>(try split)<;>omega
 by_cases h2:zv n2 b=0
 ·rw[h2,Rat.divInt_zero,<-uQ]
  rw[h2,<-jK rfl]at t2;generalize w6 (zv n1 a)=sg at*;refine Ev.x N.NK rfl rfl ?_;repeat' (first|apply AG<;>intro hc<;>try omega|refine JP rfl ?_|apply AE|refine AD (t1 _) ?_|refine AD (t2 _) ?_)<;>conv=>whnf
  exact AW rfl (eE false [] [1])
 have s2:w6 (zv n2 b)≠0:=by unfold w6;split<;>(try split)<;>omega
 obtain⟨p1,p2⟩:=Ahk (x:=zv n1 a) h2;have hG:=λq q'=>Ajk N n1 n2 q q' a b (ha.le O') (hb.le O')
 have hle:Qa (val a) (val b)<=val b:=Nat.gcd_le_right _ (by have:=FV n2 b;omega);have Oo:0<Qa (val a) (val b):=vf _ (by have:=FV n2 b;omega);have sg:Sm 274877906943 (dg (Qa (val a) (val b))):=hb.low hle;rw[FV,FV]at p1 p2;have hgf:decide (((Qa (val a) (val b):Nat):Int)<0)=false:=Z'
 have sg':Sm 274877906943 (dg (((Qa (val a) (val b):Nat):Int)).natAbs):=by rw[Mc];exact sg
 have zg:zv (decide (((Qa (val a) (val b):Nat):Int)<0)) (dg (((Qa (val a) (val b):Nat):Int)).natAbs)=((Qa (val a) (val b):Nat):Int):=GW _;have Bz:=λq q'=>zI N n1 _ q q' a _ ha sg' (by rw[zg];omega)
 have Ca:=λq q'=>zI N n2 _ q q' b _ hb sg' (by rw[zg];omega)
 rw[zg]at Bz Ca;have wk:Sm 274877906943 (dg (zv n1 a/((Qa (val a) (val b):Nat):Int)).natAbs):=ha.low (by
  have:(zv n1 a/((Qa (val a) (val b):Nat):Int)).natAbs<=(zv n1 a).natAbs:=Int.natAbs_ediv_le_natAbs _ _
  rw[FV]at this;exact this)
 have Ct:0<((Qa (val a) (val b):Nat):Int):=O'
 generalize ((Qa (val a) (val b):Nat):Int)=g at*;generalize zv n1 a=x at*;generalize zv n2 b=y at*;generalize w6 x=sx at*;generalize w6 y=sy at*;have hN:=λq=>zJ N (decide (x/g<0)) q (dg (x/g).natAbs) (wk.le O')
 rw[GW]at hN;have Lf:decide (y/g<0)=decide (y<0):=by
  congr 1;rw[eq_iff_iff,Int.ediv_lt_iff_lt_mul O',Int.zero_mul]
 refine Ev.x N.NK rfl rfl ?_;repeat' (first|apply AG<;>intro hc<;>try omega|apply AE|refine AD (t1 _) ?_|refine AD (t2 _) ?_|refine AD (hG _ _) ?_|refine AD (Bz _ _) ?_|refine AD (Ca _ _) ?_)<;>conv=>whnf
 cases hyn:decide (y/g<0)
 ·rw[hyn]at Lf
  rw[if_neg (of_decide_eq_false Lf.symm)]at p1;conv=>whnf
  skip
  refine AW ?_ (DY _);show _=AV.agg (rQ _ _ _ _ _);rw[p1,p2]
 ·rw[hyn]at Lf
  rw[if_pos (of_decide_eq_true Lf.symm)]at p1;conv=>whnf
  (repeat' (refine AD (hN _) ?_<;>conv=>whnf))
  refine AW ?_ (DY _);show _=AV.agg (rQ _ _ _ _ _);rw[p1,p2]
theorem Ahm{z:Int}{d:u_}:Oc z (zv false d)=mkRat z (val d):=by rw[FI,oc]
def Afg(n:Bool)(m d:u_)(n':Bool)(m' d':u_)(k:Nat):Prop:=Sm k m'/\Sm k d'/\val d'≠0/\qv n m d=mkRat (zv n' m') (val d')
theorem vN(n:Bool)(m d:u_):AY (.j5 [.agg (rZ false n m),.agg (rZ false false d)]):=by
 simp only[AY,BK,and_true,true_and];exact⟨C8 _,C8 _⟩
theorem V6(N:b7 L)(n q:Bool)(m d:u_)(k:Nat)(hk:1<=k/\k<=274877906943)(hm:Sm k m)(hd:Sm k d):∃n' m' d',Ev L 122 [.agg (rQ false q n m d)] (.j5 [.agg (rZ false n' m'),.agg (rZ false false d')])/\Afg n m d n' m' d' k:=by
 have t1:=λq=>HY N d q hd.1 (by have:=hd.2;omega)
 have hl:=IU (val d);by_cases h0:val d=0
 ·refine⟨false,[],[1],?_,Ws _,rS hk.1 O',Y',by unfold qv;rw[h0,eg,Aeg,gg]⟩
  refine Ev.x N.PR rfl rfl ?_;repeat' (first|apply AG<;>intro hc<;>try omega|apply AP|refine JP rfl ?_|apply AE|refine AD (t1 _) ?_)<;>conv=>whnf
  exact AW rfl (vN false [] [1])
 ·refine⟨n,m,dg (val d),?_,hm,hd.yf,by rw[BQ];exact h0,by rw[BQ];rfl⟩
  refine Ev.x N.PR rfl rfl ?_;repeat' (first|apply AG<;>intro hc<;>try omega|apply AP|apply AE|refine AD (t1 _) ?_)<;>conv=>whnf
  exact AW rfl (vN _ _ _)
theorem Ajp(N:b7 L)(n q:Bool)(m d:u_)(hm:Sm 274877906943 m)(hd:Sm 274877906943 d){q0:Bool}:Ev L 123 [.agg (rQ q0 q n m d)] (.agg (eQ (qv n m d))):=by
 obtain⟨n',m',d',hp,s1,s2,s3,s4⟩:=V6 N n false m d 274877906943 O' hm hd;have hr:=λq q'=>fX N n' false q q' m' d' s1 s2
 rw[Ahm,<-s4]at hr;refine Ev.x N.UH rfl rfl ?_;repeat' (first|apply dD|apply AE|refine AD (hp) ?_|refine AD (hr _ _) ?_)<;>conv=>whnf
 exact AW rfl (DY _)
theorem Af2(z:Int):AV.agg [.bool (decide (z<0)),.sl false ((dg z.natAbs).map AJ),.sl false [[.int .u32 1]]] = .agg (eQ (z:Rat)):=by
 show _=AV.agg (rQ _ _ _ _ _);rw[Ef,Df,wO];rfl
theorem NY(N:b7 L)(z:Int)(hz:-9223372036854775808<=z/\z<=9223372036854775807):Ev L 124 [.int .i64 z] (.agg (eQ (z:Rat))):=by
 have h1:=nC N z hz;refine Ev.x N.UG rfl rfl ?_;repeat' (first|refine JP rfl ?_|apply AE|refine AD (h1) ?_)<;>conv=>whnf
 exact AW (Af2 z) (DY _)
theorem Wt{z:Int}(hz:-9223372036854775808<=z/\z<=9223372036854775808):Sm 2 (dg z.natAbs):=Sm.dg O'
theorem nE(N:b7 L)(x y:Int)(hx:-9223372036854775808<=x/\x<=9223372036854775807)(hy:-9223372036854775808<=y/\y<=9223372036854775807):Ev L 125 [.int .i64 x,.int .i64 y] (.agg (eQ (Oc x y))):=by
 have h1:=nC N x hx;have h2:=nC N y hy;have hr:=λq q'=>fX N (decide (x<0)) (decide (y<0)) q q' _ _ ((Wt (z:=x) O').le O') ((Wt (z:=y) O').le O')
 rw[GW,GW]at hr;refine Ev.x N.UE rfl rfl ?_;repeat' (first|apply AE|refine AD (h1) ?_|refine AD (h2) ?_|refine AD (hr _ _) ?_)<;>conv=>whnf
 exact AW rfl (DY _)
theorem W3{k l:Nat}{n1 n2:Bool}{a b:u_}(ha:Sm k a)(hb:Sm l b):Sm (k+l) (dg (zv n1 a*zv n2 b).natAbs):=ha.mul hb (by rw[Lb,FV,FV])
theorem Anj{k:Nat}{x y:Int}(ha:Sm k (dg x.natAbs))(hb:Sm k (dg y.natAbs)):Sm (k+1) (dg (x+y).natAbs):=ha.add hb (by rw[BQ,BQ];omega)
theorem Ajm(N:b7 L)(k:Nat)(hk:1<=k/\k<=68719476736)(n1 n2 q2 q4:Bool)(m1 d1 m2 d2:u_)(ix:Sm k m1)(qf:Sm k d1)(ji:Sm k m2)(tv:Sm k d2){q1 q3:Bool} :
  Ev L 126 [.agg (rQ q1 q2 n1 m1 d1),.agg (rQ q3 q4 n2 m2 d2)] (.agg (eQ (qv n1 m1 d1+qv n2 m2 d2))):=by
 obtain⟨a1,a2,a3,gd,s1,s2,s3,s5⟩:=V6 N n1 false m1 d1 k O' ix qf;obtain⟨b1,b2,b3,dn,t1,t2,t3,t5⟩:=V6 N n2 false m2 d2 k O' ji tv;have l1:=s1.2;have l2:=s2.2;have l3:=t1.2;have l4:=t2.2;rw[s5,t5,iD s3 t3,<-FI b3,<-FI a3];have kx:=λq q'=>V7 N a1 false q q' a2 b3 s1.1 t2.1 O'
 have nm:=λq q'=>V7 N b1 false q q' b2 a3 t1.1 s2.1 O'
 have tp:=λq q'=>V7 N false false q q' a3 b3 s2.1 t2.1 O'
 have g1:Sm (k+k) (dg (zv a1 a2*zv false b3).natAbs):=W3 s1 t2;have g2:Sm (k+k) (dg (zv b1 b2*zv false a3).natAbs):=W3 t1 s2;have g3:=Anj g1 g2;have g4:Sm (k+k) (dg (zv false a3*zv false b3).natAbs):=W3 s2 t2;have hA:=λq q'=>zH N (decide (zv a1 a2*zv false b3<0)) (decide (zv b1 b2*zv false a3<0)) q q' _ _ (g1.le O') (g2.le O')
 rw[GW,GW]at hA;have hR:=λq q'=>fX N (decide (zv a1 a2*zv false b3+zv b1 b2*zv false a3<0)) (decide (zv false a3*zv false b3<0)) q q' _ _ (g3.le O') (g4.le O')
 rw[GW,GW,show zv false a3*zv false b3=((val a3*val b3:Nat):Int)by rw[FI,FI];simp,oc]at hR;rw[show zv false a3*zv false b3=((val a3*val b3:Nat):Int)by rw[FI,FI];simp]at tp;refine Ev.x N.UC rfl rfl ?_;repeat' (first|apply dD|apply AE|refine AD (gd) ?_|refine AD (dn) ?_|refine AD (kx _ _) ?_|refine AD (nm _ _) ?_|refine AD (hA _ _) ?_|refine AD (tp _ _) ?_|refine AD (hR _ _) ?_)<;>conv=>whnf
 exact AW rfl (DY _)
theorem Ajo(N:b7 L)(k:Nat)(hk:1<=k/\k<=68719476736)(n1 n2 q2 q4:Bool)(m1 d1 m2 d2:u_)(ix:Sm k m1)(qf:Sm k d1)(ji:Sm k m2)(tv:Sm k d2){q1 q3:Bool} :
  Ev L 128 [.agg (rQ q1 q2 n1 m1 d1),.agg (rQ q3 q4 n2 m2 d2)] (.agg (eQ (qv n1 m1 d1*qv n2 m2 d2))):=by
 obtain⟨a1,a2,a3,gd,s1,s2,s3,s5⟩:=V6 N n1 false m1 d1 k O' ix qf;obtain⟨b1,b2,b3,dn,t1,t2,t3,t5⟩:=V6 N n2 false m2 d2 k O' ji tv;have l1:=s1.2;have l2:=s2.2;have l3:=t1.2;have l4:=t2.2;rw[s5,t5,pJ];have kx:=λq q'=>V7 N a1 b1 q q' a2 b2 s1.1 t1.1 O'
 have tp:=λq q'=>V7 N false false q q' a3 b3 s2.1 t2.1 O'
 have g1:Sm (k+k) (dg (zv a1 a2*zv b1 b2).natAbs):=W3 s1 t1;have g4:Sm (k+k) (dg (zv false a3*zv false b3).natAbs):=W3 s2 t2;have hR:=λq q'=>fX N (decide (zv a1 a2*zv b1 b2<0)) (decide (zv false a3*zv false b3<0)) q q' _ _ (g1.le O') (g4.le O')
 rw[GW,GW,show zv false a3*zv false b3=((val a3*val b3:Nat):Int)by rw[FI,FI];simp,oc]at hR;rw[show zv false a3*zv false b3=((val a3*val b3:Nat):Int)by rw[FI,FI];simp]at tp;refine Ev.x N.UF rfl rfl ?_;repeat' (first|apply dD|apply AE|refine AD (gd) ?_|refine AD (dn) ?_|refine AD (kx _ _) ?_|refine AD (tp _ _) ?_|refine AD (hR _ _) ?_)<;>conv=>whnf
 exact AW rfl (DY _)
theorem Uz{a b:Int}{d e:Nat}(hd:d≠0)(he:e≠0):w6 (a*e-b*d)=w6 (mkRat a d-mkRat b e).num:=by
 have h:mkRat a d-mkRat b e=mkRat (a*e-b*d) (d*e):=by
  rw[Pf,Pg,iD hd he,af,<-Nf]
 rw[h,Vb (Le hd he)]
theorem Ajn(N:b7 L)(k:Nat)(hk:1<=k/\k<=68719476736)(n1 n2 q2 q4:Bool)(m1 d1 m2 d2:u_)(ix:Sm k m1)(qf:Sm k d1)(ji:Sm k m2)(tv:Sm k d2){q1 q3:Bool} :
  Ev L 127 [.agg (rQ q1 q2 n1 m1 d1),.agg (rQ q3 q4 n2 m2 d2)] (.int .i64 (w6 (qv n1 m1 d1-qv n2 m2 d2).num)):=by
 obtain⟨a1,a2,a3,gd,s1,s2,s3,s5⟩:=V6 N n1 false m1 d1 k O' ix qf;obtain⟨b1,b2,b3,dn,t1,t2,t3,t5⟩:=V6 N n2 false m2 d2 k O' ji tv;have l1:=s1.2;have l2:=s2.2;have l3:=t1.2;have l4:=t2.2;rw[s5,t5,<-Uz s3 t3,<-FI b3,<-FI a3];have kx:=λq q'=>V7 N a1 false q q' a2 b3 s1.1 t2.1 O'
 have nm:=λq q'=>V7 N b1 false q q' b2 a3 t1.1 s2.1 O'
 have g1:Sm (k+k) (dg (zv a1 a2*zv false b3).natAbs):=W3 s1 t2;have g2:Sm (k+k) (dg (zv b1 b2*zv false a3).natAbs):=W3 t1 s2;have hC:=λq q'=>Ajj N (decide (zv a1 a2*zv false b3<0)) (decide (zv b1 b2*zv false a3<0)) q q' _ _ (g1.le O') (g2.le O')
 rw[GW,GW]at hC;refine Ev.x N.UD rfl rfl ?_;repeat' (first|apply dD|apply AE|refine AD (gd) ?_|refine AD (dn) ?_|refine AD (kx _ _) ?_|refine AD (nm _ _) ?_|refine AD (hC _ _) ?_)<;>conv=>whnf
 exact BP rfl
theorem Bt.rz{k:Nat}{x:Rat}(h:Bt k x)(hk:k<2199023255552):Sm 68719476736 (dg x.num.natAbs)/\Sm 68719476736 (dg x.den):=h.dig O'
theorem Q1(N:b7 L){x y:Rat}{k l:Nat}(hx:Bt k x)(hy:Bt l y)(hk:k<2199023255552)(hl:l<2199023255552):Ev L 126 [.agg (eQ x),.agg (eQ y)] (.agg (eQ (x+y))):=by
 have:=Ajm (q1:=false) (q3:=false) N 68719476736 O' (decide (x.num<0)) (decide (y.num<0)) false false _ _ _ _ (hx.rz hk).1 (hx.rz hk).2 (hy.rz hl).1 (hy.rz hl).2
 rw[GD,GD]at this;exact this
theorem V4(N:b7 L){x y:Rat}{k l:Nat}(hx:Bt k x)(hy:Bt l y)(hk:k<2199023255552)(hl:l<2199023255552):Ev L 128 [.agg (eQ x),.agg (eQ y)] (.agg (eQ (x*y))):=by
 have:=Ajo (q1:=false) (q3:=false) N 68719476736 O' (decide (x.num<0)) (decide (y.num<0)) false false _ _ _ _ (hx.rz hk).1 (hx.rz hk).2 (hy.rz hl).1 (hy.rz hl).2
 rw[GD,GD]at this;exact this
theorem AjM(N:b7 L){x:Rat}{k:Nat}(hx:Bt k x)(hk:k<2199023255552):Ev L 123 [.agg (eQ x)] (.agg (eQ x)):=by
 have:=Ajp (q0:=false) N (decide (x.num<0)) false _ _ ((hx.rz hk).1.le O') ((hx.rz hk).2.le O')
 rw[GD]at this;exact this
theorem aJ(N:b7 L){x y:Rat}{k l:Nat}(hx:Bt k x)(hy:Bt l y)(hk:k<2199023255552)(hl:l<2199023255552):Ev L 127 [.agg (eQ x),.agg (eQ y)] (.int .i64 (w6 (x-y).num)):=by
 have:=Ajn (q1:=false) (q3:=false) N 68719476736 O' (decide (x.num<0)) (decide (y.num<0)) false false _ _ _ _ (hx.rz hk).1 (hx.rz hk).2 (hy.rz hl).1 (hy.rz hl).2
 rw[GD,GD]at this;exact this
end Go.e9

namespace Go.e9
open F
theorem Air{L:Lib}{f:Nat}{fn:AFn}{vs:w_}{own q8:Own}{r:AV}(hL:L f=some fn)(zn:KA fn.body=true)(h:IB L f vs own r q8):q8=own:=by
 obtain⟨n,h⟩:=h;cases n with
 |zero=>simp[D4]at h
 |succ n=>
  rw[YA]at h;simp only[hL]at h;split at h
  ·split at h
   ·rename_i st o7
    split at h
    ·simp only[Nc,zf]at h
     rw[<-h.2];exact KL n (by simp[Q6,zn]) o7
    ·cases h
   ·cases h
  ·cases h
attribute [local irreducible] AA AF AX AC B4 AU A7 A8 BV BI B0 DS BG A1 BU CB AB A2 AH pw CG B3 CR DK C2 CO CJ BL CY C3 C4 CX C7
variable {L:Lib}
theorem Ag4(N:c6 L)(l:u_)(s:Nat)(hD:A3 l)(hl:l.length<=1099511627776):A2 L 65 [.row 5 0 1 0 l.length] [(0,.row 5 0 1 0 l.length)] [(5,s,.rw 1 (l.map AJ))] (λr _=>r = .row 5 0 1 0 (dg (val l)).length):=by
 have hlen:∀n,n<=l.length->l.take n=dg (val l)->n=(dg (val l)).length:=λn h1 h2=>by
  rw[<-h2,ja];omega
 refine I7 1000 N.HH rfl rfl ?_;(repeat' (apply AE<;>conv=>whnf))
 refine DG (λn=>n) (λ(n:Nat)=>n<=l.length/\∀i,n<=i->i<l.length->l[i]?=some 0) (λn=>[(3,.int .i64 n)]) (λ_=>[]) l.length ⟨ea _,λi h1 h2=>O'⟩ ?_;intro n ⟨p1,p2⟩ ih;rcases n with _|n
 ·repeat' (first|apply AG<;>intro hc<;>try omega|apply AE)<;>conv=>whnf
  refine I6 0 O' O' ?_;conv=>whnf
  refine⟨rfl,_,rfl,?_⟩;rw[<-hlen 0 p1 (H5 hD p1 p2 (Or.inl rfl))];rfl
 ·have e1:((n+1:Nat):Int)-1=n:=O'
  repeat' (first|apply AG<;>intro hc<;>try omega|apply A4;omega|apply BS;omega|refine VD V' ?_ (λv hv hb=>?_);omega|apply AE)<;>conv=>whnf
  ·rw[e1]
   exact BF [] (ih n O' ⟨O',λi h1 h2=>by
    by_cases h:i=n
    ·subst h
     rw[e1,Da]at hv;rw[hv];congr 1;omega
    ·exact p2 i O' h2⟩)
  ·refine I6 (n+1) O' O' ?_
   (conv=>whnf)
   refine⟨rfl,_,rfl,?_⟩;rw[e1,Da]at hv;rw[<-hlen (n+1) p1 (H5 hD p1 p2 (Or.inr ⟨_,hv,O'⟩))];rfl
theorem Ag3(N:c6 L)(l:u_)(s t:Nat)(own:Own)(hD:A3 l)(hl:l.length<=1099511627776)(hb:(own s).c9 t=some ⟨1,l.map AJ⟩)(ht:t<(own s).j7)(x6:FG s=true):IB L 65 [.row s t 1 0 l.length] own (.row s t 1 0 (dg (val l)).length) own:=by
 have hs:IE (λ_ _=>(s,t)) own [(5,s,.rw 1 (l.map AJ))]:=by
  have key:∀k u c,c8 [(5,s,BC.rw 1 (l.map AJ))] k u=some c->k=5/\u=0/\c = .rw 1 (l.map AJ):=λk u c e=>by
   simp only[c8,e8]at e;cases hk:Jd k 5<;>simp only[hk,cond_true,cond_false]at e
   ·cases e
   ·cases u with
    |zero=>simp only[Nc]at e;exact⟨Nat.eq_of_beq_eq_true hk,rfl,e.symm⟩
    |succ u=>cases e
  refine⟨λk s' c e=>?_,λk u c e=>?_,λk u c e=>ht,λk u k' u' c c' e e' _=>?_,λ_ _ _ _ _=>x6⟩
  ·simp only[e8]at e
   cases hk:Jd k 5<;>simp only[hk,cond_true,cond_false]at e
   ·cases e
   ·simp only[Nc,zf]at e;exact e.1
  ·obtain⟨_,_,rfl⟩:=key k u c e
   exact hb
  ·obtain⟨rfl,rfl,_⟩:=key k u c e
   obtain⟨rfl,rfl,_⟩:=key k' u' c' e';exact⟨rfl,rfl⟩
 have hw:=Ag4 N l s hD hl;unfold A2 at hw;obtain⟨r,q8,σ',M',h1,h2,h3,rfl⟩:=hw _ own hs;have ho:=Air N.HH (by decide +kernel) h1;subst ho;have h4:AV.row (σ' 5 0).1 (σ' 5 0).2 1 0 l.length=AV.row s t 1 0 l.length:=h3 0;simp only[AV.row.injEq]at h4;have h5:IB L 65 [.row s t 1 0 l.length] q8 (.row (σ' 5 0).1 (σ' 5 0).2 1 0 (dg (val l)).length) q8:=h1;rw[h4.1,h4.2.1]at h5;exact h5
theorem cV(N:c6 L){l:u_}{tm:Tm}{M:Mem}{K:AV->Mem->Prop}{key s len:Nat}(hD:A3 l)(hl:l.length<=1099511627776)(hm:e8 M key=some (s,.rw 1 (l.map AJ)))(hlen:len=l.length)(hk:K (.row key 0 1 0 (dg (val l)).length) M):A2 L 65 [.row key 0 1 0 len] tm M K:=by
 subst hlen;unfold A2;intro σ own hs;have im:=hs.site _ _ _ hm;have Ig:c8 M key 0=some (.rw 1 (l.map AJ)):=by simp only[c8,hm]
 have hb:=hs.c9 _ _ _ Ig;have ht:=hs.old _ _ _ Ig;refine⟨.row key 0 1 0 (dg (val l)).length,own,σ,M,?_,hs,λ_=>rfl,hk⟩;exact Ag3 N l (σ key 0).1 (σ key 0).2 own hD hl hb ht (hs.low _ _ _ (EQ hm) rfl)
end Go.e9

namespace Go.e9
open F
attribute [local irreducible] AA AF AX AC B4 AU A7 A8 BV BI B0 DS BG A1 BU CB AB A2 AH pw CG B3 CR DK C2 CO CJ BL CY C3 C4 CX C7
variable {L:Lib}
abbrev mK(v:u_)(j m s xl:Nat):Tm:=[(102,AV.sl false (Mb AJ v)),(101,AV.row 71012 0 1 j (v.length+1)),
           (100,AV.int IntKind.i64 (↑j + ↑v.length+1)),(99,AV.int IntKind.i64 (↑j + ↑v.length)),
           (98,AV.int IntKind.i64 ↑v.length),(97,AV.int IntKind.i64 ↑j),(96,AV.int IntKind.i64 ↑j),
           (95,AV.row 71012 0 1 0 (xl+1)),(94,AV.int IntKind.i64 ↑j),(93,AV.row 28 0 1 0 m),
           (90,AV.bool true),(14,AV.int IntKind.i64 ↑j),(13,AV.sl false (Mb AJ v)),
           (12,AV.row 71012 0 1 0 (xl+1)),(11,AV.int IntKind.u64 ↑s),(7,AV.row 28 0 1 0 m),
           (6,AV.int IntKind.i64 ↑v.length)]
abbrev Aib:List It:=[It.lp HI.l2,It.c9 2,It.code
      (((BH.ops HI.Bk false).dr [9,10,84,85,86,87,118,119,120,121,122,123,124,125,126]
         []).seq
       (((BH.ops HI.Li false).dr [127,128,129,130,131] []).seq
        ((((BH.ops HI.Lj false).dr [15,132,133] []).seq
           (BH.cond 134
            (((BH.ops HI.Lk false).dr [0,1,5,7,134,135,136] []).seq BH.ret)
            BH.skip)).seq
         (((BH.ops HI.Ll false).dr [134] []).seq
          ((((BH.ops HI.Lm false).dr [1] []).seq (BH.block 4 HI.l3.loop)).seq
           (((BH.ops HI.Ln false).dr
              [0,5,9,137,138,139,140,162,163,164,165,166,167,168,169] []).seq
            (((BH.ops HI.Lo false).dr [7,170,171,172] []).seq BH.ret)))))))]
section
variable {A W C w v:u_} {j m s xl q:Nat} {K:AV->Mem->Prop}
theorem mA(hA:A.length=j)(hW:W.length=v.length+1)(D2:A3 W)(ib:A3 v)(je:2<=v.length)(xg:v.length<=549755813888)(cg:0<val v)
  (r1:q<4294967296) (r2:val W/val v<=q) (r3:q<=val W/val v+1)
  (hk:∀(W':u_)(o':v_)(q':Nat),W'.length=v.length+1->A3 W'->val W'=val W%val v->q'=val W/val v->K (.int .u32 (q':Int)) [(71012,71012,.rw 1 ((A++W'++C).map AJ)),(28,28,.rw 1 (w.map AJ)),(71012,71012,.rw 1 o')])
  (pc:∀(W':u_)(o':v_)(q':Nat),W'.length=v.length+1->A3 W'->val W'=val W%val v->q'=val W/val v->K (.int .u32 (q':Int)) [(71012,71012,.rw 1 ((A++W'++C).map AJ)),(71012,71012,.rw 1 o'),(28,28,.rw 1 (w.map AJ))]) :
  AA L Aib ([(86,.int .i64 0),(85,.int .i64 v.length),(84,.sl false (v.map AJ)),(10,.int .u64 0),(9,.int .u64 0),(7,.int .u64 (q:Int)),(5,.int .i64 v.length),(0,AV.row 71012 0 1 j (v.length+1)),(1,AV.sl false (Mb AJ v))]++H8 1000 (mK v j m s xl))
   [(71012,71012,BC.rw 1 (Mb AJ (A++W++C))),(28,28,BC.rw 1 (Mb AJ w))] (uG 1000 HI (mK v j m s xl) K):=by
 refine tF (λi _ _ _=>v.length-i) (λ(i:Nat)(Z:u_)(c b:Nat)=>i<=v.length/\Z.length=v.length+1/\A3 Z/\c<4294967296/\b<=1/\Z.drop i=W.drop i/\val (Z.take i)+q*val (v.take i)=val (W.take i)+4294967296^i*(c+b)) (λi Z c b=>[(86,.int .i64 i),(10,.int .u64 (b:Int)),(9,.int .u64 (c:Int))]) (λi Z c b=>[(71012,71012,.rw 1 ((A++Z++C).map AJ))]) [] [] 0 W 0 0 E' ⟨O',hW,D2,O',O',rfl,by simp[val]⟩ ?_;intro i Z c b ⟨p1,p2,p3,p4,p5,p6,p7⟩ ih;by_cases hi:i<v.length
 ·obtain⟨d,hd⟩:=N' v i hi
  obtain⟨u,hu⟩:=N' Z i;have bn:=ib.at hd;have ue:=p3.at hu;obtain⟨pr,uy⟩:∃pr,pr=q*d+c:=⟨_,rfl⟩;obtain⟨m1,m2,m3⟩:=Vf r1 bn p4 uy;have yo:W[i]?=some u:=by
   have e1:(Z.drop i)[0]?=(W.drop i)[0]? := by rw[p6]
   simpa [hu]using e1.symm
  repeat' (first|apply AG<;>intro hc<;>try omega|apply A4;omega|apply HW;omega|apply QM;omega|apply GQ|apply B7;omega|refine A5 V' ?_ rfl ?_;omega|apply AE)<;>conv=>whnf
  rw[<-uy];refine RV i hu O' ?_;conv=>whnf
  repeat' (first|apply A4;omega|apply dM;omega|apply B7;omega|apply G7)<;>conv=>whnf
  obtain⟨s1,s2⟩:=kC ue (show pr%4294967296<4294967296 by omega) p5;have o7:=AlR p7 uy rfl ue p5;generalize FF (FF u (pr%4294967296)) b=t at*;refine OK i O' O' ?_;conv=>whnf
  repeat' (first|apply AR;omega|apply dL)<;>conv=>whnf
  refine BB [] E' (ih (i+1) _ _ _ O' ⟨O',by simpa using p2,p3.set _ O',m1,s2,?_,?_⟩)
  ·rw[vb O']
   have e1:(Z.drop i).drop 1=(W.drop i).drop 1:=by rw[p6]
   simpa using e1
  ·rw[HS O',ER hd,ER yo,Ka]
   exact o7
 ·obtain rfl:i=v.length:=O'
  clear ih;obtain⟨u,hu⟩:=N' Z v.length;have ue:=p3.at hu;have yo:W[v.length]?=some u:=by
   have e1:(Z.drop v.length)[0]?=(W.drop v.length)[0]? := by rw[p6]
   simpa [hu]using e1.symm
  rw[DQ (ea v.length)]at p7;obtain⟨s1,s2⟩:=kC ue p4 p5;have o7:=AlP p7 rfl ue p4 p5;have eW:val W=val (W.take v.length)+4294967296^v.length*u:=by
   rw[<-ER yo,DQ O']
  rw[<-eW,<-HS (show v.length<Z.length by omega),DQ K']at o7;repeat' (first|apply AG<;>intro hc<;>try omega|apply A4;omega|apply AE)<;>conv=>whnf
  refine RV v.length hu O' ?_;conv=>whnf
  repeat' (first|apply A4;omega|apply dM;omega|apply B7;omega|apply G7)<;>conv=>whnf
  generalize FF (FF u c) b=t at*;refine OK v.length O' O' ?_;conv=>whnf
  repeat' (first|apply AG<;>intro hc<;>try omega|apply dL|apply E3;omega|apply AP)<;>conv=>whnf
  ·have ht0:t/9223372036854775808=0:=O'
   rw[ht0,Ob,Ja]at o7;obtain⟨y1,y2⟩:=wS cg r2 o7;exact⟨rfl,_,rfl,hk _ _ _ (by simpa using p2) (p3.set _ O') y2 y1⟩
  ·have ht1:t/9223372036854775808=1:=O'
   rw[ht1,Qe]at o7;have Gr:A3 (Z.set v.length (t%4294967296)):=p3.set _ O';have Ee:(Z.set v.length (t%4294967296)).length=v.length+1:=by simpa using p2
   clear p7 p6 p4 p5 s1 s2 eW ht1 hu yo ue p1 p2 p3;generalize Z.set v.length (t%4294967296)=X at*;have Ec:=F2 Gr;rw[Ee,Ka]at Ec;obtain⟨y1,y2,y3⟩:=wR cg r3 Ec o7;have hRV:val W%val v<val v:=Pa _ cg;have Cf:=F2 ib;obtain⟨xw,Dt⟩:=N' X v.length;have eX:val X=val (X.take v.length)+4294967296^v.length*xw:=by
    rw[<-ER Dt,DQ O']
   refine F5 (λi _ _=>v.length-i) (λ(i:Nat)(Z:u_)(c:Nat)=>i<=v.length/\Z.length=v.length+1/\A3 Z/\c<=1/\Z.drop i=X.drop i/\val (Z.take i)+4294967296^i*c=val (X.take i)+val (v.take i)) (λi Z c=>[(139,.int .i64 i),(9,.int .u64 (c:Int))]) (λi Z c=>[(71012,71012,.rw 1 ((A++Z++C).map AJ))]) 0 X 0 ⟨O',Ee,Gr,O',rfl,by simp[val]⟩ ?_;intro i Z c ⟨p1,p2,p3,p4,p6,p7⟩ ih;by_cases hi:i<v.length
   ·obtain⟨d,hd⟩:=N' v i hi
    obtain⟨u,hu⟩:=N' Z i;have bn:=ib.at hd;have ue:=p3.at hu;have np:X[i]?=some u:=by
     have e1:(Z.drop i)[0]?=(X.drop i)[0]? := by rw[p6]
     simpa [hu]using e1.symm
    have yq:=uN (d:=d) (w:=u) p7 rfl;repeat' (first|apply AG<;>intro hc<;>try omega|apply A4;omega|refine A5 V' ?_ rfl ?_;omega|apply AE)<;>conv=>whnf
    refine RV i hu O' ?_;conv=>whnf
    repeat' (first|apply A4;omega|apply HW;omega|apply B7;omega|apply G7)<;>conv=>whnf
    generalize ht2:u+d+c=t2 at*;refine OK i O' O' ?_;conv=>whnf
    repeat' (first|apply AR;omega|apply GQ)<;>conv=>whnf
    refine BB [] E' (ih (i+1) _ _ O' ⟨O',by simpa using p2,p3.set _ O',O',?_,?_⟩)
    ·rw[vb O']
     have e1:(Z.drop i).drop 1=(X.drop i).drop 1:=by rw[p6]
     simpa using e1
    ·rw[HS O',ER hd,ER np,Ka]
     exact yq
   ·obtain rfl:i=v.length:=O'
    clear ih;obtain⟨u,hu⟩:=N' Z v.length;have ue:=p3.at hu;have np:X[v.length]?=some u:=by
     have e1:(Z.drop v.length)[0]?=(X.drop v.length)[0]? := by rw[p6]
     simpa [hu]using e1.symm
    rw[np]at Dt;obtain rfl:u=xw:=by simpa using Dt
    rw[DQ (ea v.length)]at p7;have Gt:=F2 (p3.take v.length);rw[ja,kc O']at Gt;rw[eX]at y3;have ri:=uM p7 y3 O' Gt;rw[<-HS (show v.length<Z.length by omega),DQ K']at ri;repeat' (first|apply AG<;>intro hc<;>try omega|apply A4;omega|apply AE)<;>conv=>whnf
    refine RV v.length hu O' ?_;conv=>whnf
    repeat' (first|apply A4;omega|apply tZ|apply E3;omega)<;>conv=>whnf
    refine OK v.length O' O' ?_;conv=>whnf
    repeat' (first|(apply KU;omega;omega)|apply E3;omega)<;>conv=>whnf
    exact⟨rfl,_,rfl,pc _ _ _ (by simpa using p2) (p3.set _ O') ri y1⟩
theorem Ahj(N:c6 L)(hA:A.length=j)(hW:W.length=v.length+1)(D2:A3 W)(ib:A3 v)(je:2<=v.length)(xg:v.length<=549755813888)(cg:0<val v)
  (n2:4294967296^(v.length-1)*2147483648<=val v) (g2:val W<4294967296*val v)
  (hk:∀(W':u_)(o':v_)(q':Nat),W'.length=v.length+1->A3 W'->val W'=val W%val v->q'=val W/val v->K (.int .u32 (q':Int)) [(71012,71012,.rw 1 ((A++W'++C).map AJ)),(28,28,.rw 1 (w.map AJ)),(71012,71012,.rw 1 o')])
  (pc:∀(W':u_)(o':v_)(q':Nat),W'.length=v.length+1->A3 W'->val W'=val W%val v->q'=val W/val v->K (.int .u32 (q':Int)) [(71012,71012,.rw 1 ((A++W'++C).map AJ)),(71012,71012,.rw 1 o'),(28,28,.rw 1 (w.map AJ))]) :
  A2 L 73 [AV.row 71012 0 1 j (v.length+1),AV.sl false (Mb AJ v)] (mK v j m s xl) [(71012,71012,BC.rw 1 (Mb AJ (A++W++C))),(28,28,BC.rw 1 (Mb AJ w))] K:=by
 obtain⟨UL,a1,a2⟩:=kG D2 (n:=v.length+1) O' O';obtain⟨VL,b5,b6⟩:=AdX ib (n:=v.length) je O';obtain⟨u0,w0⟩:=N' W v.length;obtain⟨u1,w1⟩:=N' W (v.length-1);obtain⟨u2,w2⟩:=N' W (v.length-2);obtain⟨f1,x1⟩:=N' v (v.length-1);obtain⟨f2,x2⟩:=N' v (v.length-2);rw[show v.length+1-3=v.length-2 by omega,show v.length+1-2=v.length-1 by omega,show v.length+1-1=v.length by omega,II w0,II w1,II w2]at a2;rw[show v.length+1-3=v.length-2 by omega]at a1;rw[II x1,II x2]at b6;have uw:=Zu ib (k:=v.length-1) O' n2 x1;have k0:=D2.at w0;have k1:=D2.at w1;have k2:=D2.at w2;have k3:=ib.at x1;have k4:=ib.at x2;have z1:v[((v.length:Int)-1).toNat]?=some f1:=by rw[show((v.length:Int)-1).toNat=v.length-1 by omega];exact x1
 have z2:v[((v.length:Int)-2).toNat]?=some f2:=by rw[show((v.length:Int)-2).toNat=v.length-2 by omega];exact x2
 refine I7 1000 N.HI rfl rfl ?_;repeat' (first|apply A4;omega|apply AP|apply AE)<;>conv=>whnf
 refine RV v.length w0 O' ?_;conv=>whnf
 repeat' (first|apply A4;omega|apply BS;omega|apply OI;omega|apply B7;omega)<;>conv=>whnf
 refine RV (v.length-1) w1 O' ?_;conv=>whnf
 refine tO O' ?_;conv=>whnf
 refine QN O' ?_;conv=>whnf
 generalize Qi:u0*4294967296+u1=top at*;have Ip:top<=18446744073709551615:=O'
 have hU:val W=UL+4294967296^(v.length-2)*(u2+4294967296*top):=by rw[a2,show u1+4294967296*u0=top by omega]
 repeat' (first|apply BS;omega|apply ZU;omega|(apply dJ;omega;omega)|apply B7;omega|refine A5 V' ?_ rfl ?_;omega)<;>conv=>whnf
 refine ZL (λq _=>q) (λ(q r:Nat)=>Gs (val W) (val v) f1 f2 u2 top q r) (λq r=>[(7,.int .u64 (q:Int)),(8,.int .u64 (r:Int))]) (λ_ _=>[]) [] [] (top/f1) (top%f1) E' (Gs.start hU b6 a1 k2 cg O' k3) ?_;intro q r g gv;have Po:q<=top:=by
  have h3:=g.hq;have h4:q*1<=q*f1:=ob q O';omega
 have hr:=g.hr;have iw:=g.ge;by_cases hb:4294967296<=q
 ·obtain⟨y1,y2,y3⟩:=g.next hU b6 a1 cg g2 (Or.inl hb)
  repeat' (first|apply AG<;>intro hc<;>try omega|apply BS;omega|apply HW;omega|(apply KU;omega;omega)|apply B7;omega|apply AP|refine A5 V' ?_ rfl ?_;omega|apply AE)<;>conv=>whnf
  ·obtain⟨t1,t2⟩:=YI hU b6 b5 uw k4 g2 y2 (Or.inr O')
   exact BB [] E' (mA (w:=w) (C:=C) hA hW D2 ib je xg cg t1 y3 t2 hk pc)
  ·exact BB [] E' (gv (q-1) (r+f1) O' ⟨y2,O',y3⟩)
 ·have hmq:=YU (show q<4294967296 by omega) k4
  by_cases w7:r*4294967296+u2<q*f2
  ·obtain⟨y1,y2,y3⟩:=g.next hU b6 a1 cg g2 (Or.inr w7)
   repeat' (first|apply AG<;>intro hc<;>try omega|apply A4;omega|apply BS;omega|apply QM;omega|apply OI;omega|apply B7;omega|refine A5 V' ?_ rfl ?_;omega|apply AE)<;>conv=>whnf
   refine RV (v.length-2) w2 O' ?_;conv=>whnf
   repeat' (first|apply AG<;>intro hc<;>try omega|apply BS;omega|apply HW;omega|apply QN;omega|(apply KU;omega;omega)|apply B7;omega|apply AP|refine A5 V' ?_ rfl ?_;omega)<;>conv=>whnf
   ·obtain⟨t1,t2⟩:=YI hU b6 b5 uw k4 g2 y2 (Or.inr O')
    exact BB [] E' (mA (w:=w) (C:=C) hA hW D2 ib je xg cg t1 y3 t2 hk pc)
   ·exact BB [] E' (gv (q-1) (r+f1) O' ⟨y2,O',y3⟩)
  ·obtain⟨t1,t2⟩:=YI hU b6 b5 uw k4 g2 g.hq (Or.inl ⟨O',O'⟩)
   repeat' (first|apply AG<;>intro hc<;>try omega|apply A4;omega|apply BS;omega|apply QM;omega|apply OI;omega|apply B7;omega|refine A5 V' ?_ rfl ?_;omega|apply AE)<;>conv=>whnf
   refine RV (v.length-2) w2 O' ?_;conv=>whnf
   repeat' (first|apply AG<;>intro hc<;>try omega|apply QN;omega|apply B7;omega|apply AP)<;>conv=>whnf
   exact BB [] E' (mA (w:=w) (C:=C) hA hW D2 ib je xg cg t1 iw t2 hk pc)
end
end Go.e9

namespace Go.e9
open F
attribute [local irreducible] AA AF AX AC B4 AU A7 A8 BV BI B0 DS BG A1 BU CB AB A2 AH pw CG B3 CR DK C2 CO CJ BL CY C3 C4 CX C7
variable {L:Lib}
theorem Ank{V R y d t Q:Nat}(h:Q*y+R=V)(ht:t=R*4294967296+d):(t/y+4294967296*Q)*y+t%y=d+4294967296*V:=by
 have:=Db t y
 rw[<-h,ff];have e:t/y*y=y*(t/y):=Ga _ _;grind
theorem Z7(a b:u_):AY (.j5 [.sl false (a.map AJ),.sl false (b.map AJ)]):=by
 simp only[AY,BK,and_true,true_and];exact⟨C8 a,C8 b⟩
set_option maxHeartbeats 4000000 in
theorem mW(N:c6 L)(X Y:Nat)(q1 q2:Bool)(hY:Y≠0)(lx:(dg X).length<=549755813888)(ly:(dg Y).length<=549755813888):Ev L 74 [.sl q1 ((dg X).map AJ),.sl q2 ((dg Y).map AJ)] (.j5 [.sl false ((dg (X/Y)).map AJ),.sl false ((dg (X%Y)).map AJ)]):=by
 have s8:=λq q'=>Q2 N (dg X) (dg Y) q q' (EH X) (EH Y) O' O'
 rw[BQ,BQ]at s8;have d1:=EH X;have d2:=EH Y;have v1:=BQ X;have v2:=BQ Y;have hy1:=aF hY;refine Ev.x N.M5 rfl rfl ?_;by_cases k7:X<Y
 ·have hn:DL X Y = -1:=(KB O').symm
  rw[hn]at s8;repeat' (first|apply AG<;>intro hc<;>try omega|apply AE|refine AD (s8 _ _) ?_|refine AD (yB N (dg X) _ O') ?_)<;>conv=>whnf
  refine AW ?_ (Z7 _ _);rw[yb k7,tb k7,FX];rfl
 have iw:0<=DL X Y:=by unfold DL;split<;>(try split)<;>omega
 have ub:=R8 (show Y<=X by omega);generalize DL X Y=cm at*;by_cases h1:(dg Y).length=1
 ·-- one digit
  obtain⟨y0,rp⟩:∃y0,dg Y=[y0]:=Bb.1 h1;have ug:Y=y0:=by rw[<-v2,rp];simp[val]
  subst ug;have Fb:Y<4294967296:=d2 Y (by rw[rp];simp);have hyg:(dg Y)[0]?=some Y:=by rw[rp];rfl
  clear rp v2;generalize dg Y=y at*;generalize hx:dg X=x at*;repeat' (first|apply AG<;>intro hc<;>try omega|apply AR;omega|apply BS;omega|apply AP|apply AE|refine AD (s8 _ _) ?_)<;>conv=>whnf
  refine FJ (enc:=AJ) 0 x.length rfl O' O' ?_;conv=>whnf
  repeat' (first|apply AG<;>intro hc<;>try omega|apply BS;omega|apply AP)<;>conv=>whnf
  refine F5 (λn _ _=>n) (λ(n:Nat)(o:u_)(r:Nat)=>n<=x.length/\o.length=x.length/\A3 o/\r<Y/\val (o.drop n)*Y+r=val (x.drop n)) (λn o r=>[(8,.int .u64 (r:Int)),(9,.int .i64 ((n:Int)-1))]) (λn o r=>[(28,28,.rw 1 (o.map AJ))]) x.length (Ia x.length 0) 0 ⟨O',Z',K2 _,O',by rw[Ma (ea _),Ma Z'];simp[val]⟩ ?_;intro n o r ⟨p1,p2,p3,p4,p5⟩ ih;rcases n with _|n
  ·rw[ya,ya]at p5
   have hq:X/Y=val o/\X%Y=r:=by
    rw[<-v1,<-p5];have e1:(val o*Y+r)/Y=val o:=by
     rw[Ga,xd O',yb p4,Ja]
    have e2:(val o*Y+r)%Y=r:=by
     rw[Ga,zd,tb p4]
    exact⟨e1,e2⟩
   rw[hq.1,hq.2,<-p2];clear ih hq p5;have ij:=FN p3;have gd:A3 [r]:=IV O';have jd:=FN gd;have Dq:val [r]=r:=by simp[val]
   have hl3:[r].length=1:=rfl;repeat' (first|apply AG<;>intro hc<;>try omega|apply E3;omega|apply AE|refine cV N V' O' rfl (by first|rfl|omega|assumption) ?_)<;>conv=>whnf
   refine H3 (enc:=AJ) (λ_=>rfl) O' ?_;conv=>whnf
   refine H3 (enc:=AJ) (l:=[r]) (λ_=>rfl) O' ?_;conv=>whnf
   refine AW ?_ (Z7 _ _);rw[ya,ya,cL p3,cL gd,Dq]
  ·have e1:((n+1:Nat):Int)-1=n:=O'
   rw[e1];obtain⟨d,hd⟩:=N' x n;have bn:=d1.at hd;have hYb:Y<4294967296:=Fb;have hR:r*4294967296+d<Y*4294967296:=O'
   have wv:(r*4294967296+d)/Y<4294967296:=(eb O').2 O';repeat' (first|apply AG<;>intro hc<;>try omega|apply A4;omega|apply OI;omega|apply QN;omega|(apply dJ;omega;omega)|apply B7;omega|apply E3;omega|refine A5 V' ?_ rfl ?_;omega|apply AE)<;>conv=>whnf
   obtain⟨t,ht⟩:∃t,t=r*4294967296+d:=⟨_,rfl⟩;rw[<-ht]at hR wv⊢;have hm:t%Y<Y:=Pa _ O';have o7:=Ank p5 ht;rw[<-I4 hd]at o7;clear ht;skip
   refine GI O' ?_;conv=>whnf
   repeat' (first|apply BS;omega|apply ZU;omega|apply B7;omega|refine A5 V' ?_ rfl ?_;omega)<;>conv=>whnf
   generalize t/Y=tq at*;generalize t%Y=tr at*;refine BB [] E' (ih n _ _ O' ⟨O',by simpa using p2,p3.set _ O',hm,?_⟩);rw[I4 (l:=o.set n tq) (d:=tq) (by rw[xc O']),vb O'];exact o7
 ·-- two digits or more
  have Pc:2<=(dg Y).length:=O'
  obtain⟨yt,zw,zx⟩:=lZ hY;have xh:=d2.at zw;obtain⟨b1,b2,b3,b4⟩:=pD zx xh;have Hn:=yG N yt xh;generalize hs:32-w4 yt=s at*;have fj:s<=31:=O'
  generalize dg Y=y at*;generalize hx:dg X=x at*;have e1:((y.length:Int)-1).toNat=y.length-1:=O'
  rw[<-e1]at zw;obtain⟨rv,hrv,v,hV,mf,Pw⟩:=Ai0 N y q2 s y.length d2 fj O' O';subst Pw;repeat' (first|apply AG<;>intro hc<;>try omega|apply AR;omega|apply BS;omega|apply AP|apply AE|refine AD (s8 _ _) ?_)<;>conv=>whnf
  refine FJ (enc:=AJ) 0 (x.length-y.length+1) rfl O' O' ?_;conv=>whnf
  repeat' (first|apply AG<;>intro hc<;>try omega|apply AR;omega|apply BS;omega|apply B7;omega|apply AP|refine A5 V' ?_ rfl ?_;omega|refine AD (Hn) ?_)<;>conv=>whnf
  refine I7 1000 N.M7 rfl rfl ?_;(repeat' (apply AE<;>conv=>whnf))
  refine FJ (enc:=AJ) 0 (x.length+1) rfl O' O' ?_;conv=>whnf
  (repeat' (apply AP<;>conv=>whnf))
  have qg:=bT (s:=s) O';refine F5 (λi _ _=>x.length-i) (λ(i:Nat)(o:u_)(lo:Nat)=>i<=x.length/\o.length=x.length+1/\A3 o/\lo<2^s/\val (o.take i)+4294967296^i*lo=val (x.take i)*2^s) (λi o lo=>[(8,.int .u32 (lo:Int)),(15,.int .i64 i)]) (λi o lo=>[(71012,71012,.rw 1 (o.map AJ))]) 0 (Ia (x.length+1) 0) 0 ⟨O',Z',K2 _,qb s,by simp[val]⟩ ?_;intro i o lo ⟨p1,p2,p3,p4,p5⟩ ih;by_cases hi:i<x.length
  ·obtain⟨d,hd⟩:=N' x i hi
   have bn:=d1.at hd;obtain⟨f1,f2,f3,f4⟩:=WY (s:=s) bn O';repeat' (first|apply AG<;>intro hc<;>try omega|refine A5 V' ?_ rfl ?_;omega|apply AE)<;>conv=>whnf
   refine uC O' ?_;conv=>whnf
   skip
   refine kP s f1 p4 O' ?_;conv=>whnf
   repeat' (first|apply A4;omega|fail)<;>conv=>whnf
   refine GI O' ?_;conv=>whnf
   repeat' (first|apply B7;omega|fail)<;>conv=>whnf
   refine QP O' f4 ?_;conv=>whnf
   repeat' (first|apply AR;omega|apply GQ|apply E3;omega)<;>conv=>whnf
   rw[<-WX];refine BB [] E' (ih (i+1) _ _ O' ⟨O',by simpa using p2,p3.set _ O',f2,?_⟩);rw[HS O',ER hd,Ka];exact Wi p5
  obtain rfl:i=x.length:=O'
  clear ih;repeat' (first|apply AG<;>intro hc<;>try omega|apply A4;omega|apply AP|apply AE)<;>conv=>whnf
  refine GI O' ?_;conv=>whnf
  skip
  have hU:=Wg p3 O' p2 p5;have Am:(o.set x.length lo).length=x.length+1:=by simpa using p2
  clear p3 p4 p5 p2;generalize o.set x.length lo=u at*;refine⟨rfl,_,rfl,?_⟩;conv=>whnf
  repeat' (first|apply BS;omega|apply AP|refine AD (hrv) ?_)<;>conv=>whnf
  have Qq:y[y.length-1]?=some yt:=by rw[<-e1];exact zw
  obtain⟨n1,n2⟩:=oU d2 Qq O' fj b3 b4;have Kh:val v=Y*2^s:=by rw[<-v2];exact hV.2.2 (by rw[mf];exact n1)
  have Kg:val u=X*2^s:=by
   rw[<-v1];refine hU.2.2 ?_;have h3:=F2 d1;rw[Am,Ka];exact Cb (ec h3 (qb s)) (ob _ qg)
  have ib:=hV.1;have Ke:=hU.1;have Cg:=F2 ib;rw[v2,<-Kh]at n2;rw[<-mf]at n2;clear hV hU s8 hrv Hn;have je:2<=v.length:=O'
  have hvx:v.length<=x.length:=O'
  have xg:v.length<=549755813888:=O'
  have hxL:x.length<=549755813888:=O'
  have hX:X<4294967296^x.length:=by rw[<-v1];exact F2 d1
  rw[<-mf];generalize hm:x.length-v.length+1=m at*;have cg:0<val v:=by
   have:=Yn (v.length-1)
   omega
  have ml:val (u.drop m)<val v:=by
   have h1:=LQ u m O';rw[Kg]at h1;have h2:X*2^s<4294967296^x.length*2147483648:=Cb (ec hX (qb s)) (ob _ (Qd O' fj));have h3:4294967296^x.length=4294967296^m*4294967296^(v.length-1):=by rw[<-Od];congr 1;omega
   rw[h3,Hd]at h2;refine Cb ?_ n2;refine Nat.lt_of_mul_lt_mul_left (a:=4294967296^m) ?_;omega
  have e2:(x.length:Int)-v.length=((m:Nat):Int)-1:=O'
  rw[e2];refine F5 (λn _ _=>n) (λ(n:Nat)(o w:u_)=>n<=m/\o.length=x.length+1/\A3 o/\w.length=m/\A3 w/\val (o.drop n)<val v/\X*2^s=val (o.take n)+4294967296^n*(val (w.drop n)*val v+val (o.drop n))) (λn o w=>[(14,.int .i64 ((n:Int)-1))]) (λn o w=>[(71012,71012,.rw 1 (o.map AJ)),(28,28,.rw 1 (w.map AJ))]) m u (Ia m 0) ⟨O',Am,Ke,Z',K2 _,ml,by rw[<-Kg,Ma (show(Ia m 0).length<=m by simp),KR,Dc,db];exact LQ u m O'⟩ ?_;intro n o w ⟨p1,p2,p3,p4,p5,p6,p7⟩ ih;rcases n with _|j
  ·clear ih
   rw[ya]at p6;rw[dd,ya,ya,KR,db,ie,mc]at p7;have ef:val o=val (o.take v.length):=by
    have h1:=XA o v.length;rcases Dd (val (o.drop v.length))with h2|h2
    ·rw[h2,Ob,Ja]at h1;exact h1
    ·have h3:4294967296^v.length*1<=4294967296^v.length*val (o.drop v.length):=ob _ h2
     omega
   have yp:X/Y=val w/\X%Y=val o/2^s:=by
    obtain⟨z1,z2⟩:=wV (X:=X) (Y:=Y) (qb s);rw[<-z1,<-z2,<-Kh,p7];have e1:(val w*val v+val o)/val v=val w:=by
     rw[Ga,xd cg,yb p6,Ja]
    have e2:(val w*val v+val o)%val v=val o:=by
     rw[Ga,zd,tb p6]
    rw[e1,e2];exact⟨rfl,rfl⟩
   rw[yp.1,yp.2];have ij:=FN p5;obtain⟨ro,zn,o2,k1,k2,k3,k4⟩:=Ai1 N (o.take v.length) true s (p3.take _) fj J';subst k4;rw[ef,<-k3];have jd:=FN k1;rw[ja]at k2;clear p7 yp ml;repeat' (first|apply AG<;>intro hc<;>try omega|apply AE|refine cV N V' O' rfl (by first|rfl|omega|assumption) ?_)<;>conv=>whnf
   refine I6 v.length rfl O' ?_;conv=>whnf
   refine H3 (enc:=AJ) (λ_=>rfl) O' ?_;conv=>whnf
   rw[ya,wc];repeat' (first|refine AD (zn) ?_|refine MI (NN N o2 _ k1 O') ?_)<;>conv=>whnf
   refine H3 (enc:=AJ) (λ_=>rfl) O' ?_;conv=>whnf
   refine AW ?_ (Z7 _ _);rw[ya,cL p5]
  ·have e3:((j+1:Nat):Int)-1=j:=O'
   rw[e3];have e4:(v.length:Int).toNat=v.length:=O'
   obtain⟨A,W,C,hA,hW,rfl⟩:=xN o j (v.length+1) O';obtain⟨g1,g2,g3⟩:=xP hA hW p3 p6 Cg;obtain⟨D1,D2,D3⟩:=wP p3;have yd:val W/val v<4294967296:=(eb cg).2 g2;have Ng:val W=val W/val v*val v+val W%val v:=by rw[Ga];exact(Db _ _).symm
   have Ch:val W%val v<val v:=Pa _ cg;have Ce:X*2^s=val A+4294967296^j*val W+4294967296^j*4294967296*(val (w.drop (j+1))*val v):=by
    rw[p7,Oe,<-g3,Ka];omega
   have si:=xO Ce Ng;have bz:∀q',q'=val W/val v->val ((w.set j q').drop j)=val W/val v+4294967296*val (w.drop (j+1)):=λq' h=>by
    rw[I4 (l:=w.set j q') (d:=q') (by rw[xc O']),vb O',h]
   have hlen:∀W':u_,W'.length=v.length+1->(A++W'++C).length=x.length+1:=λW' h=>by
    rw[<-p2];simp[h,hW]
   repeat' (first|apply AG<;>intro hc<;>try omega|apply AR;omega|apply AeR;omega|apply AE)<;>conv=>whnf
   rw[show((j:Int)+v.length+1).toNat-(j:Int).toNat=v.length+1 by omega,show 0+(j:Int).toNat=j by omega];refine Ahj N hA hW D2 ib je xg cg n2 g2 (λW' o' q' z1 z2 z3 z4=>?_) (λW' o' q' z1 z2 z3 z4=>?_)
   ·(conv=>whnf)
    repeat' (first|apply A4;omega|fail)<;>conv=>whnf
    refine GI O' ?_;conv=>whnf
    repeat' (first|apply BS;omega|fail)<;>conv=>whnf
    obtain⟨t1,t2⟩:=mL (A:=A) (W:=W') (C:=C) (j:=j) hA g1;refine BB [] E' (ih j (A++W'++C) (w.set j q') O' ⟨O',hlen W' z1,(D1.append z2).append D3,by simpa using p4,p5.set _ O',O',?_⟩);rw[t1,t2,bz q' z4,z3];exact si
   ·(conv=>whnf)
    repeat' (first|apply A4;omega|fail)<;>conv=>whnf
    refine GI O' ?_;conv=>whnf
    repeat' (first|apply BS;omega|fail)<;>conv=>whnf
    obtain⟨t1,t2⟩:=mL (A:=A) (W:=W') (C:=C) (j:=j) hA g1;refine BB [] E' (ih j (A++W'++C) (w.set j q') O' ⟨O',hlen W' z1,(D1.append z2).append D3,by simpa using p4,p5.set _ O',O',?_⟩);rw[t1,t2,bz q' z4,z3];exact si
end Go.e9

namespace Go.e9
open F
attribute [local irreducible] AA AF AX AC B4 AU A7 A8 BV BI B0 DS BG A1 BU CB AB A2 AH pw CG B3 CR DK C2 CO CJ BL CY C3 C4 CX C7
variable {L:Lib}
theorem uE{k':IntKind}{a:Int}{K:AV->Prop}(hk:K (.int .i64 (a/4294967296))):AC .shr .i64 a k' 32 K:=by
 refine uD O' ?_;have:pw 32=4294967296:=by decide +kernel
 rw[this];exact hk
theorem tN{t:Int}{K:Int->Prop}(hk:K (Z9 t:Int)):A0 .u32 t K:=by
 refine⟨?_⟩;rw[IntKind.wrap_u32,<-lK];exact hk
section
variable {k':IntKind} {a b:Nat} {K:AV->Prop}
theorem Afe{i:Nat}(hi:i<2)(ha:a<4294967296)(hk:K (.int .u64 ((a*4294967296^i:Nat):Int))):AC .shl .u64 (a:Int) k' (32*(i:Int)) K:=by
 rcases i with _|_|i
 ·exact QP (s:=0) O' O' hk
 ·exact QP (s:=32) O' O' hk
 ·omega
end
theorem Rq{x y M N:Int}(hx:-M<=x/\x<=M)(hy:-N<=y/\y<=N):-(M*N)<=x*y/\x*y<=M*N:=by
 have h1:x.natAbs<=M.natAbs:=O'
 have h2:y.natAbs<=N.natAbs:=O'
 have h3:=Nat.mul_le_mul h1 h2;rw[<-Lb,<-Lb]at h3;have h4:0<=M*N:=Qg O' O';omega
theorem fS(N:c6 L)(a b:u_)(q1 q2:Bool)(hA:A3 a)(hB:A3 b)(la:a.length<=549755813888)(lb:b.length<=549755813888)(h0:val b≠0) :
  Ev L 75 [.sl q1 (a.map AJ),.sl q2 (b.map AJ)] (.j5 [.sl false ((dg (val a/val b)).map AJ),.sl false ((dg (val a%val b)).map AJ),.int .i64 0]):=by
 have l1:=FN hA;have l2:=FN hB;have hp:=aF h0;refine Ev.x N.S6 rfl rfl ?_;repeat' (first|apply AG<;>intro hc<;>try omega|apply AP|apply AE|refine MI (NN N a _ hA O') ?_|refine MI (NN N b _ hB O') ?_|refine AD (mW N _ _ _ _ h0 O' O') ?_)<;>conv=>whnf
 refine AW rfl ?_;simp only[AY,BK,and_true,true_and];exact⟨C8 _,C8 _⟩
theorem yW(N:c6 L)(V:Nat)(q:Bool)(hl:(dg V).length<=2):Ev L 76 [.sl q ((dg V).map AJ)] (.int .u64 (V:Int)):=by
 have hV:=NV.1 hl;have hD:=EH V;have hv:=BQ V;refine Ev.x N.O4 rfl rfl ?_;generalize dg V=l at*;repeat' (first|apply AP|apply AE)<;>conv=>whnf
 refine EE (λi _=>l.length-i) (λ(i:Nat)(a:Nat)=>i<=l.length/\a=val (l.take i)) (λi a=>[(3,.int .u64 (a:Int)),(8,.int .i64 i)]) (λ_ _=>[]) 0 0 ⟨O',rfl⟩ ?_;intro i a ⟨p1,p2⟩ ih;by_cases hi:i<l.length
 ·obtain⟨d,hd⟩:=N' l i hi
  have bn:=hD.at hd;have h1:=ER hd;have h2:=F2 (hD.take i);have h3:=F2 (hD.take (i+1));rw[ja,kc O']at h2 h3;have h4:4294967296^(i+1)<=4294967296^2:=Qd O' O';repeat' (first|apply AG<;>intro hc<;>try omega|apply GH;omega|apply B7;omega|refine A5 V' ?_ rfl ?_;omega|apply AE)<;>conv=>whnf
  refine Afe O' bn ?_;conv=>whnf
  rw[Ga d];refine dI (32*i) (by rw[cd];exact Nat.mul_mod_right _ _) (by rw[cd,p2];exact h2) O' ?_;conv=>whnf
  repeat' (first|apply AR;omega|fail)<;>conv=>whnf
  exact BB [] E' (ih (i+1) _ O' ⟨O',by rw[h1,p2]⟩)
 ·obtain rfl:i=l.length:=O'
  clear ih;repeat' (first|apply AG<;>intro hc<;>try omega|apply AE)<;>conv=>whnf
  rw[DQ (ea _)]at p2;exact BP O'
theorem kI{f:Nat}{vs:w_}{tm:Tm}{M:Mem}{K:AV->Mem->Prop}{v:AV}(h:A2 L f vs tm M (λr M'=>r=v/\M'=M))(hk:K v M):A2 L f vs tm M K:=by
 unfold A2 at h⊢;intro σ own hs;obtain⟨r,q8,σ',M',h1,h2,h3,rfl,rfl⟩:=h σ own hs;exact⟨_,q8,σ',_,h1,h2,h3,hk⟩
theorem yV(N:c6 L)(a:u_)(q:Bool)(n s:Nat)(hD:A3 a)(hn:3<=n)(hl:a.length<=n)(Pc:n<=549755813888)(hs:s<=31)(k7:val a*2^s<4294967296^n) :
  Ev L 78 [.sl q (a.map AJ),.int .i64 (n:Int),.int .u64 (s:Int)] (.int .i64 ((val a/YL n s:Nat):Int)):=by
 have b1:=SM hD (n-1);have b2:=SM hD (n-2);have b3:=SM hD (n-3);have yx:=Vu hD hn hl rfl rfl k7;have heq:=Vt (s:=s) hD hn hl hs rfl rfl rfl;obtain⟨f1,f2,f3,f4⟩:=WY (s:=s) b3 O';refine Ev.x N.S8 rfl rfl ?_;repeat' (first|apply A4;omega|apply BS;omega|apply AE)<;>conv=>whnf
 refine kI (v := .int .u64 ((a.getD (n-1) 0:Nat):Int)) ?_ ?_
 ·refine I7 1000 N.M6 rfl rfl ?_
  repeat' (first|apply AG<;>intro hc<;>try omega|apply B7;omega|apply AP|refine RW V' ?_ (λe he hb=>?_);omega|apply AE)<;>conv=>whnf
  ·refine⟨rfl,_,rfl,?_,rfl⟩
   rw[show((n:Int)-1).toNat=n-1 by omega]at he;rw[II he];rfl
  ·refine⟨rfl,_,rfl,?_,rfl⟩
   rw[<-getD_none (show a.length<=n-1 by omega)];rfl
 (conv=>whnf)
 repeat' (first|apply A4;omega|apply BS;omega|apply OI;omega)<;>conv=>whnf
 refine kI (v := .int .u64 ((a.getD (n-2) 0:Nat):Int)) ?_ ?_
 ·refine I7 1000 N.M6 rfl rfl ?_
  repeat' (first|apply AG<;>intro hc<;>try omega|apply B7;omega|apply AP|refine RW V' ?_ (λe he hb=>?_);omega|apply AE)<;>conv=>whnf
  ·refine⟨rfl,_,rfl,?_,rfl⟩
   rw[show((n:Int)-2).toNat=n-2 by omega]at he;rw[II he];rfl
  ·refine⟨rfl,_,rfl,?_,rfl⟩
   rw[<-getD_none (show a.length<=n-2 by omega)];rfl
 (conv=>whnf)
 generalize a.getD (n-1) 0=d1 at*;generalize a.getD (n-2) 0=d2 at*;repeat' (first|apply QN;omega|fail)<;>conv=>whnf
 refine QP O' yx ?_;conv=>whnf
 generalize hT:(d1*4294967296+d2)*2^s=T at*;repeat' (first|apply A4;omega|apply BS;omega)<;>conv=>whnf
 refine kI (v := .int .u64 ((a.getD (n-3) 0:Nat):Int)) ?_ ?_
 ·refine I7 1000 N.M6 rfl rfl ?_
  repeat' (first|apply AG<;>intro hc<;>try omega|apply B7;omega|apply AP|refine RW V' ?_ (λe he hb=>?_);omega|apply AE)<;>conv=>whnf
  ·refine⟨rfl,_,rfl,?_,rfl⟩
   rw[show((n:Int)-3).toNat=n-3 by omega]at he;rw[II he];rfl
  ·refine⟨rfl,_,rfl,?_,rfl⟩
   rw[<-getD_none (show a.length<=n-3 by omega)];rfl
 (conv=>whnf)
 generalize a.getD (n-3) 0=d3 at*;skip
 refine QP O' f4 ?_;conv=>whnf
 (repeat' (apply GQ<;>conv=>whnf))
 rw[WX]at f2;refine uB s (by rw[<-hT];exact Fc _ _) f2 (by have:=iF (k:=d1*4294967296+d2) (show s<=64 by omega) O';omega) ?_;conv=>whnf
 repeat' (first|apply Afa|apply RS;omega)<;>conv=>whnf
 rw[heq];exact BP rfl
theorem AiY(N:c6 L)(P Q:Int)(hP:0<=P/\P<=4611686018427387904)(hQ:0<=Q/\Q<=4611686018427387904):∃r,Ev L 79 [.int .i64 P,.int .i64 Q] r/\∃a b c d:Int,(kK a b c d/\(-2147483647<=a/\a<=2147483647)/\(-2147483647<=b/\b<=2147483647)/\(-2147483647<=c/\c<=2147483647)/\(-2147483647<=d/\d<=2147483647))/\(b≠0->ZS P Q a b c d)/\r = .j5 [.int .i64 a,.int .i64 b,.int .i64 c,.int .i64 d]:=by
 refine Ev.xE N.O1 rfl rfl ?_;(repeat' (apply AE<;>conv=>whnf))
 refine Aek (λ_ _ _ _ _ q=>(q+2147483648).toNat) (λ(a b c d p q:Int)=>VC P Q a b c d p q/\((-2147483647<=a/\a<=2147483647)/\(-2147483647<=b/\b<=2147483647)/\(-2147483647<=c/\c<=2147483647)/\(-2147483647<=d/\d<=2147483647))/\(p<=4611686018427387904/\q<=4611686018427387904)/\XM P Q a b c d/\(b≠0->ZS P Q a b c d)) (λa b c d p q=>[(0,.int .i64 p),(1,.int .i64 q),(4,.int .i64 a),(5,.int .i64 b),(6,.int .i64 c),(7,.int .i64 d)]) (λ_ _ _ _ _ _=>[]) [] [] 1 0 0 1 P Q E' ⟨VC.start hP.1 hQ.1,O',O',XM.start P Q,λh=>absurd rfl h⟩ ?_;intro a b c d p q ⟨p1,⟨⟨p2,p2'⟩,⟨p3,p3'⟩,⟨p4,p4'⟩,⟨p5,p5'⟩⟩,⟨p6,p7⟩,p8,p9⟩ ih;have g1:=p1.pa;have g2:=p1.pb;have g3:=p1.qc;have g4:=p1.qd;by_cases fb:q+c=0
 ·repeat' (first|apply AG<;>intro hc<;>try omega|apply AR;omega|apply AE)<;>conv=>whnf
  refine⟨.j5 [.int .i64 a,.int .i64 b,.int .i64 c,.int .i64 d],?_,a,b,c,d,⟨p1.sg,O'⟩,p9,rfl⟩;conv=>whnf
  exact AW rfl (by simp[AY,BK])
 by_cases rh:q+d=0
 ·repeat' (first|apply AG<;>intro hc<;>try omega|apply AR;omega|apply AE)<;>conv=>whnf
  refine⟨.j5 [.int .i64 a,.int .i64 b,.int .i64 c,.int .i64 d],?_,a,b,c,d,⟨p1.sg,O'⟩,p9,rfl⟩;conv=>whnf
  exact AW rfl (by simp[AY,BK])
 by_cases hff:(p+a)/(q+c)=(p+b)/(q+d)
 ·obtain⟨s1,s2,s3,s4⟩:=p1.step fb rh rfl hff
  have s5:=s4 p8;have s6:=s5.half;have s7:=s1.qc;by_cases jc:2147483647<(p+a)/(q+c)
  ·repeat' (first|apply AG<;>intro hc<;>try omega|apply AR;omega|(refine KV ?_ ?_ (λ_=>?_) (λ_ _=>?_);omega;omega;all_goals try omega)|apply AE)<;>conv=>whnf
   refine⟨.j5 [.int .i64 a,.int .i64 b,.int .i64 c,.int .i64 d],?_,a,b,c,d,⟨p1.sg,O'⟩,p9,rfl⟩;conv=>whnf
   exact AW rfl (by simp[AY,BK])
  ·have t1:=Rq (x:=(p+a)/(q+c)) (y:=c) (M:=2147483647) (N:=2147483647) O' O'
   have t2:=Rq (x:=(p+a)/(q+c)) (y:=d) (M:=2147483647) (N:=2147483647) O' O';repeat' (first|apply AG<;>intro hc<;>try omega|apply AR;omega|apply BS;omega|apply GH;omega|(refine KV ?_ ?_ (λ_=>?_) (λ_ _=>?_);omega;omega;all_goals try omega)|apply B4.neg;omega|apply AE)<;>conv=>whnf
   all_goals first
    |exact BB [] E' (ih _ _ _ _ _ _ O' ⟨s1,O',O',s6,λ_=>s5⟩)
    |(refine⟨.j5 [.int .i64 a,.int .i64 b,.int .i64 c,.int .i64 d],?_,a,b,c,d,⟨p1.sg,O'⟩,p9,rfl⟩
      (conv=>whnf)
      exact AW rfl (by simp[AY,BK]))
 ·repeat' (first|apply AG<;>intro hc<;>try omega|apply AR;omega|(refine KV ?_ ?_ (λ_=>?_) (λ_ _=>?_);omega;omega;all_goals try omega)|apply AE)<;>conv=>whnf
  refine⟨.j5 [.int .i64 a,.int .i64 b,.int .i64 c,.int .i64 d],?_,a,b,c,d,⟨p1.sg,O'⟩,p9,rfl⟩;conv=>whnf
  exact AW rfl (by simp[AY,BK])
theorem AiZ(N:c6 L)(x y:u_)(q1 q2:Bool)(f g:Int)(hX:A3 x)(hY:A3 y)(hl:y.length<=x.length)(lx:x.length<=549755813888)(hs:RR f g)(R:Nat)(hR:(R:Int)=f*val x+g*val y)(hR2:R<=val x) :
  Ev L 80 [.sl q1 (x.map AJ),.sl q2 (y.map AJ),.int .i64 f,.int .i64 g] (.sl false ((dg R).map AJ)):=by
 refine Ev.x N.O2 rfl rfl ?_;repeat' (first|apply AP|apply AE)<;>conv=>whnf
 refine FJ (enc:=AJ) 0 x.length rfl rfl O' ?_;conv=>whnf
 (repeat' (apply AP<;>conv=>whnf))
 refine F5 (λi _ _=>x.length-i) (λ(i:Nat)(o:u_)(c:Int)=>i<=x.length/\o.length=x.length/\A3 o/\-2147483648<=c/\c<=2147483648/\(val (o.take i):Int)+((4294967296^i:Nat):Int)*c=f*val (x.take i)+g*val (y.take i)) (λi o c=>[(10,.int .i64 c),(19,.int .i64 i)]) (λi o c=>[(16,16,.rw 1 (o.map AJ))]) 0 (Ia x.length 0) 0 ⟨O',Z',K2 _,O',O',by simp[val]⟩ ?_;intro i o c ⟨p1,p2,p3,p4,p5,p6⟩ ih;by_cases hi:i<x.length
 ·obtain⟨d,hd⟩:=N' x i hi
  have bn:=hX.at hd;have h1:=ER hd;by_cases hy:i<y.length
  ·obtain⟨e,he⟩:=N' y i hy
   have Og:=hY.at he;have h2:=ER he;obtain⟨r1,r2,r3⟩:=hs.Jl bn Og;have o7:=vT (d:=d) (e:=e) p6 rfl;repeat' (first|apply AG<;>intro hc<;>try omega|apply AR;omega|apply GH;omega|apply RS;omega|apply AP|refine A5 V' ?_ rfl ?_;omega|apply AE)<;>conv=>whnf
   generalize htt:f * ↑d+c+g * ↑e=t at*;refine tN ?_;conv=>whnf
   repeat' (first|apply A4;omega|fail)<;>conv=>whnf
   refine GI O' ?_;conv=>whnf
   refine uE ?_;conv=>whnf
   repeat' (first|apply AR;omega|fail)<;>conv=>whnf
   refine BB [] E' (ih (i+1) _ _ O' ⟨O',by simpa using p2,p3.set _ (vS t),O',O',?_⟩);rw[HS O',h1,h2,Ka];simp only[kd,fc,lK];exact o7
  ·have h2:=kF (y:=y) (i:=i) O'
   obtain⟨r1,r2,r3⟩:=hs.Jl (e:=0) bn O';have o7:=vT (d:=d) (e:=0) p6 rfl;rw[Bg,sf]at o7;have r4:-9223372030412324865<=f*(d:Int)/\f*(d:Int)<=9223372030412324865:=r1;repeat' (first|apply AG<;>intro hc<;>try omega|apply AR;omega|apply GH;omega|apply RS;omega|apply AP|refine A5 V' ?_ rfl ?_;omega|apply AE)<;>conv=>whnf
   generalize htt:f * ↑d+c=t at*;refine tN ?_;conv=>whnf
   repeat' (first|apply A4;omega|fail)<;>conv=>whnf
   refine GI O' ?_;conv=>whnf
   refine uE ?_;conv=>whnf
   repeat' (first|apply AR;omega|fail)<;>conv=>whnf
   refine BB [] E' (ih (i+1) _ _ O' ⟨O',by simpa using p2,p3.set _ (vS t),O',O',?_⟩);rw[HS O',h1,h2,Ka];simp only[kd,fc,lK];rw[Bg,sf]at o7;exact o7
 ·obtain rfl:i=x.length:=O'
  clear ih;rw[DQ O',DQ (ea _),DQ O']at p6;have hov:=F2 p3;have Ds:=F2 hX;rw[p2]at hov;have hVR:val o=R:=by
   have:=AgH hov p6 O' O'
   omega
  have ij:=FN p3;rw[<-p2,<-hVR];repeat' (first|apply AG<;>intro hc<;>try omega|apply AE|refine cV N V' O' rfl (by first|rfl|omega|assumption) ?_)<;>conv=>whnf
  refine H3 (enc:=AJ) (λ_=>rfl) O' ?_;conv=>whnf
  refine AW ?_ (by simp only[AY,true_and];exact C8 _);rw[ya,cL p3]
theorem Ai2(N:c6 L)(X Y:Nat)(vn:Y<=X)(hy:3<=(dg Y).length)(lx:(dg X).length<=549755813888):∃r,Ev L 81 [.sl false ((dg X).map AJ),.sl false ((dg Y).map AJ)] r/\∃A B:Nat,(B<Y/\B<=A/\A<=X/\Qa A B=Qa X Y)/\r = .j5 [.sl false ((dg A).map AJ),.sl false ((dg B).map AJ)]:=by
 have hY0:Y≠0:=λh=>by rw[h,FX]at hy;simp at hy
 have yp:X≠0:=O'
 have hlen:=R8 vn;have yw:=λq q'=>mW N X Y q q' hY0 lx O'
 have d1:=EH X;have d2:=EH Y;have v1:=BQ X;have v2:=BQ Y;obtain⟨xt,Qn,Qo⟩:=lZ yp;have Iy:=d1.at Qn;obtain⟨b1,b2,b3,b4⟩:=pD Qo Iy;have Hn:=yG N xt Iy;generalize hs:32-w4 xt=s at*;have fj:s<=31:=O'
 obtain⟨n1,n2⟩:=oU d1 Qn O' fj b3 b4;have ur:=λ(f g:Int)(R:Nat)(hs:RR f g)(h1:(R:Int)=f*val (dg X)+g*val (dg Y))(h2:R<=val (dg X))(q q':Bool)=>AiZ N (dg X) (dg Y) q q' f g d1 d2 O' lx hs R h1 h2
 have n3:val (dg Y)*2^s<4294967296^(dg X).length:=Nat.lt_of_le_of_lt (zR _ O') n1;have ij:=λq=>yV N (dg X) q (dg X).length s d1 O' O' lx fj n1
 have jd:=λq=>yV N (dg Y) q (dg X).length s d2 O' O' lx fj n3
 have hK:=Aln (dg X).length s;obtain⟨e1,x1,x2,x3⟩:=Vw (V:=X) hK;obtain⟨e2,y1,y2,y3⟩:=Vw (V:=Y) hK;rw[v1]at ij;rw[v2]at jd;have yc:=Vv d1 (n:=(dg X).length) O' O' fj n1;have Eu:=Vv d2 (n:=(dg X).length) O' O' fj n3;rw[v1]at yc;rw[v2]at Eu;generalize YL (dg X).length s=K at*;generalize X/K=P at*;generalize Y/K=Q at*;rw[v1,v2]at ur;obtain⟨rc,hrc,a,b,c,d,⟨z1,z2,z3,z4,z5⟩,z6,rfl⟩:=AiY N (P:Int) (Q:Int) O' O';have e1:(((dg X).length:Int)-1).toNat=(dg X).length-1:=O'
 rw[<-e1]at Qn;refine Ev.xE N.S9 rfl rfl ?_;by_cases hb:b=0
 ·repeat' (first|apply AG<;>intro hc<;>try omega|apply BS;omega|apply B7;omega|apply AP|refine A5 V' ?_ rfl ?_;omega|apply AE|refine AD (Hn) ?_|refine AD (ij _) ?_|refine AD (jd _) ?_|refine AD (hrc) ?_|refine AD (yw _ _) ?_)<;>conv=>whnf
  refine⟨_,?_,Y,X%Y,⟨Pa _ O',Cc (Pa _ O'),vn,aU X Y⟩,rfl⟩;conv=>whnf
  exact AW rfl (Z7 _ _)
 ·obtain⟨g1,g2,g3,g4⟩:=z6 hb (X:Int) (Y:Int) (K:Int) _ _ O' x1 y1 x2 x3 y2 y3
  obtain⟨A,hA⟩:=rb (show 0<=a*X+b*Y by omega);obtain⟨B,hB⟩:=rb g1;have s1:RR a b:=by rcases z1 with⟨h1,h2,h3,h4⟩|⟨h1,h2,h3,h4⟩<;>unfold RR<;>omega
  have s2:RR c d:=by rcases z1 with⟨h1,h2,h3,h4⟩|⟨h1,h2,h3,h4⟩<;>unfold RR<;>omega
  repeat' (first|apply AG<;>intro hc<;>try omega|apply BS;omega|apply B7;omega|apply AP|refine A5 V' ?_ rfl ?_;omega|apply AE|refine AD (Hn) ?_|refine AD (ij _) ?_|refine AD (jd _) ?_|refine AD (hrc) ?_|refine AD (ur a b A s1 hA.symm O' _ _) ?_|refine AD (ur c d B s2 hB.symm O' _ _) ?_)<;>conv=>whnf
  rw[hA,hB]at g4;rw[hA,hB]at g2;refine⟨_,?_,A,B,⟨O',O',O',by simpa using g4⟩,rfl⟩;conv=>whnf
  exact AW rfl (Z7 _ _)
theorem Ru(N:c6 L)(X Y:Nat)(vn:Y<=X)(lx:(dg X).length<=549755813888) :
 AA L [It.lp IK.l1,It.c9 0,
   It.code
    ((((BH.ops IK.r6 false).dr [23,30,31] []).seq
       (BH.cond 32 (((BH.ops IK.r7 false).dr [5,6,32,33] []).seq BH.ret) BH.skip)).seq
     (((BH.ops IK.r8 false).dr [5,7,32,34,35,36,37,38,39] []).seq
      (((BH.ops IK.r9 false).dr [6,8,40,41,42,43] []).seq
       ((BH.block 2 IK.l2.loop).seq
        (((BH.ops IK.Bj false).dr [9,10,45,50,51,52,53,54,55,56] []).seq BH.ret)))))]
  [(6,AV.sl false (Mb AJ (dg Y))),(5,AV.sl false (Mb AJ (dg X)))] []
  (QQ IK (AV.sl false (Mb AJ (dg (X.gcd Y))))):=by
 refine EE (λ_ y=>y) (λ(x y:Nat)=>y<=x/\(dg x).length<=549755813888/\Qa x y=Qa X Y) (λx y=>[(6,AV.sl false (Mb AJ (dg y))),(5,AV.sl false (Mb AJ (dg x)))]) (λ_ _=>[]) X Y ⟨vn,lx,rfl⟩ ?_;intro x y ⟨p1,p2,p3⟩ ih;rw[<-p3]at ih⊢;generalize Qa X Y=G at*;clear vn lx;subst p3;have hlen:=R8 p1;by_cases h3:3<=(dg y).length
 ·obtain⟨r,hr,A,B,⟨k1,k2,k3,k4⟩,rfl⟩:=Ai2 N x y p1 h3 p2
  have k5:=R8 k3;repeat' (first|apply AG<;>intro hc<;>try omega|apply AP|apply AE|refine AD (hr) ?_)<;>conv=>whnf
  exact BF [] (ih A B k1 ⟨k2,O',k4⟩)
 ·clear ih
  by_cases h0:y=0
  ·subst h0
   have nc:(dg 0).length=0:=by rw[FX];rfl
   repeat' (first|apply AG<;>intro hc<;>try omega|apply AP|apply AE)<;>conv=>whnf
   rw[Ed];exact AW rfl (by simp only[AY,true_and];exact C8 _)
  ·have hp:=aF h0
   have hm:=R8 (Cc (Pa x (show y>0 by omega)));have hd:=λq q'=>mW N x y q q' h0 p2 O'
   have Az:=λq=>yW N y q O'
   have zo:=λq=>yW N (x%y) q O'
   have hb:y<18446744073709551616:=NV.1 (show(dg y).length<=2 by omega);have ux:x%y<y:=Pa _ O';rw[<-aU x y];repeat' (first|apply AG<;>intro hc<;>try omega|apply AP|apply AE|refine AD (hd _ _) ?_|refine AD (Az _) ?_|refine AD (zo _) ?_)<;>conv=>whnf
   refine ZL (λ_ q=>q) (λ(p q:Nat)=>p<18446744073709551616/\q<18446744073709551616/\Qa p q=Qa y (x%y)) (λp q=>[(9,.int .u64 (p:Int)),(10,.int .u64 (q:Int))]) (λ_ _=>[]) [] [] y (x%y) E' ⟨hb,O',rfl⟩ ?_;intro p q ⟨g1,g2,g3⟩ ih;rw[<-g3]at ih⊢;by_cases hq:q=0
   ·subst hq
    clear ih;obtain⟨v1,v2⟩:=lW g1;rw[Ed];have ij:=FN v2;have ht:=cL v2;rw[v1]at ij ht;repeat' (first|apply AG<;>intro hc<;>try omega|apply GQ|apply E3;omega|apply G7|apply AE)<;>conv=>whnf
    generalize p%4294967296=lo at*;generalize p/4294967296=hi at*;refine cV N v2 Z' rfl rfl ?_;rw[v1];conv=>whnf
    skip
    refine H3 (enc:=AJ) (l:=[lo,hi]) (λ_=>rfl) O' ?_;conv=>whnf
    refine AW ?_ (by simp only[AY,true_and];exact C8 _);rw[ya,ht]
   ·have hpq:p%q<q:=Pa _ O'
    repeat' (first|apply AG<;>intro hc<;>try omega|apply ZU;omega|apply AE)<;>conv=>whnf
    exact BF [] (ih q (p%q) hpq ⟨g2,O',aU p q⟩)
theorem AiX(N:c6 L)(a b:u_)(q1 q2:Bool)(hA:A3 a)(hB:A3 b)(la:a.length<=549755813888)(lb:b.length<=549755813888) :
  Ev L 82 [.sl q1 (a.map AJ),.sl q2 (b.map AJ)] (.sl false ((dg (Qa (val a) (val b))).map AJ)):=by
 have t1:=λq=>aI N a q hA O'
 have t2:=λq=>aI N b q hB O'
 have l1:=FN hA;have l2:=FN hB;have s8:=λq q'=>Q2 N (dg (val a)) (dg (val b)) q q' (EH _) (EH _) O' O'
 rw[BQ,BQ]at s8;generalize val a=X at*;generalize val b=Y at*;refine Ev.x N.IK rfl rfl ?_;by_cases k7:X<Y
 ·have hn:DL X Y = -1:=(KB O').symm
  rw[hn]at s8;repeat' (first|apply AG<;>intro hc<;>try omega|apply AE|refine AD (t1 _) ?_|refine AD (t2 _) ?_|refine AD (s8 _ _) ?_)<;>conv=>whnf
  rw[tf];exact BB [] E' (Ru N Y X O' O')
 ·have iw:0<=DL X Y:=by unfold DL;split<;>(try split)<;>omega
  generalize DL X Y=cm at*;repeat' (first|apply AG<;>intro hc<;>try omega|apply AE|refine AD (t1 _) ?_|refine AD (t2 _) ?_|refine AD (s8 _ _) ?_)<;>conv=>whnf
  exact BB [] E' (Ru N X Y O' O')
end Go.e9

namespace Go.e9
open F
attribute [local irreducible] AA AF AX AC B4 AU A7 A8 BV BI B0 DS BG A1 BU CB AB A2 AH pw CG B3 CR DK C2 CO CJ BL CY C3 C4 CX C7
variable {L:Lib}
theorem AeW{k:Nat}{K:Int->Prop}(h:0<k/\k<=9223372036854775808)(hk:K ((18446744073709551616-k:Nat):Int)):A0 .u64 (-(k:Int)) K:=by
 refine⟨?_⟩;have e:IntKind.u64.wrap (-(k:Int))=((18446744073709551616-k:Nat):Int):=by
  simp[IntKind.wrap,IntKind.bits,IntKind.signed];omega
 rw[e];exact hk
theorem B4.Ji{k:Nat}{K:AV->Prop}(h:0<k/\k<=9223372036854775808)(hk:K (.int .u64 (k:Int))):B4 .neg .u64 ((18446744073709551616-k:Nat):Int) K:=by
 refine B4.go (v := .int .u64 (IntKind.u64.wrap (0-((18446744073709551616-k:Nat):Int)))) rfl ?_;have e:IntKind.u64.wrap (0-((18446744073709551616-k:Nat):Int))=(k:Int):=by
  simp[IntKind.wrap,IntKind.bits,IntKind.signed];omega
 rw[e];exact hk
theorem mS(N:a6 L)(z:Int)(hz:-9223372036854775808<=z/\z<=9223372036854775807):Ev L 85 [.int .i64 z] (.agg (eZ z)):=by
 have two:∀k:Nat,k<18446744073709551616->∀q,Ev L 66 [.sl q [[.int .u32 ((k%4294967296:Nat):Int)],[.int .u32 ((k/4294967296:Nat):Int)]]] (.sl false ((dg k).map AJ)):=λk hk q=>by
  have:=aI N.toc6 [k%4294967296,k/4294967296] q (lW hk).2 Z'
  rw[AdY hk]at this;exact this
 refine Ev.x N.SV rfl rfl ?_;by_cases h0:0<=z
 ·obtain⟨k,rfl⟩:=rb h0
  have hT:=two k O';have z1:=IU k;repeat' (first|apply AG<;>intro hc<;>try omega|apply GQ|apply B7;omega|apply E3;omega|apply G7|refine ZZ rfl rfl ?_|apply AE)<;>conv=>whnf
  generalize k%4294967296=lo at*;generalize k/4294967296=hi at*;(repeat' (refine AD (hT _) ?_<;>conv=>whnf))
  refine EZ 1000 N.CS rfl rfl ?_;(repeat' (apply AE<;>conv=>whnf))
  all_goals (refine⟨rfl,?_⟩;(conv=>whnf);skip)
  exact AW (FK O' (GF O')) (D8 _)
 ·obtain⟨k,hk⟩:=rb (show 0 <= -z by omega)
  obtain rfl:z = -(k:Int):=O'
  have hT:=two k O';have z1:=IU k;(repeat' (apply AE<;>conv=>whnf))
  refine AeW O' ?_;conv=>whnf
  repeat' (first|apply AG<;>intro hc<;>try omega|fail)<;>conv=>whnf
  refine B4.Ji O' ?_;conv=>whnf
  repeat' (first|apply AG<;>intro hc<;>try omega|apply GQ|apply E3;omega|apply G7|refine ZZ rfl rfl ?_)<;>conv=>whnf
  generalize k%4294967296=lo at*;generalize k/4294967296=hi at*;(repeat' (refine AD (hT _) ?_<;>conv=>whnf))
  refine EZ 1000 N.CS rfl rfl ?_;repeat' (first|apply AG<;>intro hc<;>try omega|apply AP|apply AE)<;>conv=>whnf
  all_goals (refine⟨rfl,?_⟩;(conv=>whnf);skip)
  exact AW (FK O' (MC O')) (D8 _)
theorem yQ(N:a6 L)(n q:Bool)(m:u_)(hm:Sm 549755813888 m):Ev L 84 [.agg (rZ q n m)] (.agg (eZ (zv n m))):=by
 have hT:=λq=>aI N.toc6 m q hm.1 (by have:=hm.2;omega)
 have hz:=IU (val m);have ha:=FV n m;refine Ev.x N.SX rfl rfl ?_;cases n
 ·rw[FI]at*
  repeat' (first|apply AE|refine AD (hT _) ?_)<;>conv=>whnf
  refine EZ 1000 N.CS rfl rfl ?_;(repeat' (apply AE<;>conv=>whnf))
  all_goals (refine⟨rfl,?_⟩;(conv=>whnf);skip)
  exact AW (FK ha.symm (GF O')) (D8 _)
 ·rw[OH]at*
  repeat' (first|apply AE|refine AD (hT _) ?_)<;>conv=>whnf
  refine EZ 1000 N.CS rfl rfl ?_;repeat' (first|apply AG<;>intro hc<;>try omega|apply AP|apply AE)<;>conv=>whnf
  all_goals (refine⟨rfl,?_⟩;(conv=>whnf);skip)
  ·exact AW (FK ha.symm (MC O')) (D8 _)
  ·exact AW (FK ha.symm (GF O')) (D8 _)
theorem fR(N:a6 L)(n q:Bool)(m:u_)(hm:Sm 549755813888 m):Ev L 86 [.agg (rZ q n m)] (.int .i64 (w6 (zv n m))):=by
 have s8:=λq q'=>Q2 N.toc6 m [] q q' hm.1 X7 (by have:=hm.2;omega) Z'
 rw[KR]at s8;refine Ev.x N.SW rfl rfl ?_;by_cases h0:val m=0
 ·have hn:DL (val m) (0:Nat)=0:=(VT O').symm
  rw[hn]at s8;repeat' (first|apply AG<;>intro hc<;>try omega|apply AE|refine AD (s8 _ _) ?_)<;>conv=>whnf
  exact BP (jK (by have:=FV n m;omega))
 ·have hn:DL (val m) (0:Nat)=1:=(OP O').symm
  rw[hn]at s8;cases n
  ·repeat' (first|apply AG<;>intro hc<;>try omega|apply AE|refine AD (s8 _ _) ?_)<;>conv=>whnf
   exact BP (rP (by rw[FI];omega))
  ·repeat' (first|apply AG<;>intro hc<;>try omega|apply AE|refine AD (s8 _ _) ?_)<;>conv=>whnf
   exact BP (rO (by rw[OH];omega))
theorem yO(N:a6 L)(n1 n2 q1 q2:Bool)(a b:u_)(ha:Sm 549755813888 a)(hb:Sm 549755813888 b):Ev L 87 [.agg (rZ q1 n1 a),.agg (rZ q2 n2 b)] (.agg (eZ (zv n1 a+zv n2 b))):=by
 have la:=ha.2;have lb:=hb.2;have h1:=λq q'=>yU N.toc6 a b q q' ha.1 hb.1 O' O'
 have h2:=λq q'=>mV N.toc6 a b q q' ha.1 hb.1 O' O'
 have h3:=λq q'=>mV N.toc6 b a q q' hb.1 ha.1 O' O'
 have s8:=λq q'=>Q2 N.toc6 a b q q' ha.1 hb.1 O' O'
 have z1:=IU (val a+val b);have z2:=IU (val a-val b);have z3:=IU (val b-val a);refine Ev.x N.SR rfl rfl ?_;by_cases k7:val a<val b
 ·have hn:DL (val a) (val b) = -1:=(KB O').symm
  rw[hn]at s8;cases n1<;>cases n2<;>simp only[FI,OH]
  ·repeat' (first|apply AE|refine AD (h1 _ _) ?_)<;>conv=>whnf
   refine EZ 1000 N.CS rfl rfl ?_;(repeat' (apply AE<;>conv=>whnf))
   all_goals (refine⟨rfl,?_⟩;(conv=>whnf);skip)
   exact AW (FK O' (GF O')) (D8 _)
  ·repeat' (first|apply AG<;>intro hc<;>try omega|apply AE|refine AD (h3 _ _) ?_|refine AD (s8 _ _) ?_)<;>conv=>whnf
   refine EZ 1000 N.CS rfl rfl ?_;repeat' (first|apply AG<;>intro hc<;>try omega|apply AP|apply AE)<;>conv=>whnf
   all_goals (refine⟨rfl,?_⟩;(conv=>whnf);skip)
   ·exact AW (FK O' (MC O')) (D8 _)
  ·repeat' (first|apply AG<;>intro hc<;>try omega|apply AE|refine AD (h3 _ _) ?_|refine AD (s8 _ _) ?_)<;>conv=>whnf
   refine EZ 1000 N.CS rfl rfl ?_;(repeat' (apply AE<;>conv=>whnf))
   all_goals (refine⟨rfl,?_⟩;(conv=>whnf);skip)
   ·exact AW (FK O' (GF O')) (D8 _)
  ·repeat' (first|apply AE|refine AD (h1 _ _) ?_)<;>conv=>whnf
   refine EZ 1000 N.CS rfl rfl ?_;repeat' (first|apply AG<;>intro hc<;>try omega|apply AP|apply AE)<;>conv=>whnf
   all_goals (refine⟨rfl,?_⟩;(conv=>whnf);skip)
   ·exact AW (FK O' (MC O')) (D8 _)
 ·have hn:DL (val a) (val b) ≠ -1:=by unfold DL;split<;>(try split)<;>omega
  generalize DL (val a) (val b)=cm at*;cases n1<;>cases n2<;>simp only[FI,OH]
  ·repeat' (first|apply AE|refine AD (h1 _ _) ?_)<;>conv=>whnf
   refine EZ 1000 N.CS rfl rfl ?_;(repeat' (apply AE<;>conv=>whnf))
   all_goals (refine⟨rfl,?_⟩;(conv=>whnf);skip)
   exact AW (FK O' (GF O')) (D8 _)
  ·repeat' (first|apply AG<;>intro hc<;>try omega|apply AE|refine AD (h2 _ _) ?_|refine AD (s8 _ _) ?_)<;>conv=>whnf
   refine EZ 1000 N.CS rfl rfl ?_;(repeat' (apply AE<;>conv=>whnf))
   all_goals (refine⟨rfl,?_⟩;(conv=>whnf);skip)
   exact AW (FK O' (GF O')) (D8 _)
  ·repeat' (first|apply AG<;>intro hc<;>try omega|apply AE|refine AD (h2 _ _) ?_|refine AD (s8 _ _) ?_)<;>conv=>whnf
   refine EZ 1000 N.CS rfl rfl ?_;repeat' (first|apply AG<;>intro hc<;>try omega|apply AP|apply AE)<;>conv=>whnf
   all_goals (refine⟨rfl,?_⟩;(conv=>whnf);skip)
   ·exact AW (FK O' (MC O')) (D8 _)
   ·exact AW (FK O' (GF O')) (D8 _)
  ·repeat' (first|apply AE|refine AD (h1 _ _) ?_)<;>conv=>whnf
   refine EZ 1000 N.CS rfl rfl ?_;repeat' (first|apply AG<;>intro hc<;>try omega|apply AP|apply AE)<;>conv=>whnf
   all_goals (refine⟨rfl,?_⟩;(conv=>whnf);skip)
   ·exact AW (FK O' (MC O')) (D8 _)
   ·exact AW (FK O' (GF O')) (D8 _)
theorem V3(N:a6 L)(n1 n2 q1 q2:Bool)(a b:u_)(ha:A3 a)(hb:A3 b)(hl:a.length+b.length<=1099511627776):Ev L 88 [.agg (rZ q1 n1 a),.agg (rZ q2 n2 b)] (.agg (eZ (zv n1 a*zv n2 b))):=by
 have h1:=λq q'=>mU N.toc6 a b q q' ha hb hl
 have z1:=IU (val a*val b);have Nn:(zv n1 a*zv n2 b).natAbs=val a*val b:=by rw[Lb,FV,FV]
 refine Ev.x N.SU rfl rfl ?_;have e:zv n1 a*zv n2 b=bif n1 == n2 then((val a*val b:Nat):Int)else -((val a*val b:Nat):Int):=by
  cases n1<;>cases n2<;>simp[FI,OH,Md,af]
 rw[e]at Nn⊢;generalize val a*val b=V at*;cases n1<;>cases n2<;>simp only[beq_self_eq_true,cond_true,show(false == true)=false from rfl,show(true == false)=false from rfl,cond_false]
 ·repeat' (first|apply AE|refine AD (h1 _ _) ?_)<;>conv=>whnf
  refine EZ 1000 N.CS rfl rfl ?_;(repeat' (apply AE<;>conv=>whnf))
  all_goals (refine⟨rfl,?_⟩;(conv=>whnf);skip)
  exact AW (FK O' (GF O')) (D8 _)
 ·repeat' (first|apply AE|refine AD (h1 _ _) ?_)<;>conv=>whnf
  refine EZ 1000 N.CS rfl rfl ?_;repeat' (first|apply AG<;>intro hc<;>try omega|apply AP|apply AE)<;>conv=>whnf
  all_goals (refine⟨rfl,?_⟩;(conv=>whnf);skip)
  ·exact AW (FK O' (MC O')) (D8 _)
  ·exact AW (FK O' (GF O')) (D8 _)
 ·repeat' (first|apply AE|refine AD (h1 _ _) ?_)<;>conv=>whnf
  refine EZ 1000 N.CS rfl rfl ?_;repeat' (first|apply AG<;>intro hc<;>try omega|apply AP|apply AE)<;>conv=>whnf
  all_goals (refine⟨rfl,?_⟩;(conv=>whnf);skip)
  ·exact AW (FK O' (MC O')) (D8 _)
  ·exact AW (FK O' (GF O')) (D8 _)
 ·repeat' (first|apply AE|refine AD (h1 _ _) ?_)<;>conv=>whnf
  refine EZ 1000 N.CS rfl rfl ?_;(repeat' (apply AE<;>conv=>whnf))
  all_goals (refine⟨rfl,?_⟩;(conv=>whnf);skip)
  exact AW (FK O' (GF O')) (D8 _)
theorem lY:dg 1=[1]:=by rw[K0 O'];simp[FX]
theorem AiT(N:a6 L)(V:Nat)(q:Bool):Ev L 90 [.sl q ((dg V).map AJ)] (.bool (decide (V=1))):=by
 have hv:=BQ V;have hD:=EH V;have h1:V=1->dg V=[1]:=λh=>by rw[h,lY]
 generalize dg V=l at*;refine Ev.x N.TT rfl rfl ?_;by_cases hl:l.length=1
 ·obtain⟨d,rfl⟩:=Bb.1 hl
  have e:V=d:=by rw[<-hv];simp[val]
  subst e;have hd:[V][(0:Int).toNat]?=some V:=rfl;repeat' (first|apply AG<;>intro hc<;>try omega|apply AP|refine A5 V' ?_ rfl ?_;omega|apply AE)<;>conv=>whnf
  ·exact QK O'
  ·exact MJ O'
 ·repeat' (first|apply AG<;>intro hc<;>try omega|apply AP|apply AE)<;>conv=>whnf
  exact MJ (λh=>by rw[h1 h]at hl;simp at hl)
theorem YB(N:a6 L)(n q1 q2:Bool)(m d:u_)(hm:Sm 549755813888 m)(hd:Sm 549755813888 d)(h0:val d≠0):Ev L 94 [.agg (rQ q1 q2 n m d)] (.agg (eQ (qv n m d))):=by
 have Dz:=λq q'=>fS N.toc6 m d q q' hm.1 hd.1 hm.2 hd.2 h0
 have Lg:=FV n m;have sq:Sm 549755813888 (dg (val m/val d)):=hm.low (pg _ _);have sr:Sm 549755813888 (dg (val m%val d)):=hd.low (Cc (Pa _ O'));have hT:=λq=>yQ N n q _ sq
 have hG:=λq q'=>AiX N.toc6 d (dg (val m%val d)) q q' hd.1 sr.1 hd.2 sr.2
 rw[BQ,show Qa (val d) (val m%val d)=Qa (val d) (zv n m).natAbs by rw[Lg,aU,tf]]at hG;have Oo:=Rv (zv n m).natAbs h0;have Ei:=Nat.gcd_le_left (zv n m).natAbs (show 0<val d by omega);have hz:=IU (val m%val d);obtain⟨e1,e2,e3⟩:=pL (z:=zv n m) h0;unfold qv;generalize hGG:Qa (val d) (zv n m).natAbs=g at*;have h1:=λq=>AiT N g q
 refine Ev.x N.TV rfl rfl ?_;by_cases td:val m%val d=0
 ·repeat' (first|apply AG<;>intro hc<;>try omega|apply AP|apply AE|refine AD (Dz _ _) ?_|refine AD (hT _) ?_)<;>conv=>whnf
  refine EZ 1000 N.LG rfl rfl ?_;(repeat' (apply AE<;>conv=>whnf))
  refine⟨rfl,?_⟩;conv=>whnf
  (repeat' (refine JP rfl ?_<;>conv=>whnf))
  have iw:g=val d:=by
   rw[<-hGG,Lg];exact Nat.gcd_eq_left (Nat.dvd_of_mod_eq_zero td)
  have hv:=BQ (val m/val d);refine AW ?_ ?_
  ·show _=AV.agg (rQ _ _ _ _ _)
   rw[e1,e2,e3,Lg,iw,Nat.div_self O',FV,hv,lY];have hs:decide (zv n (dg (val m/val d))<0)=decide (zv n m<0):=by
    cases n
    ·rw[FI,FI];simp;omega
    ·rw[OH,OH,hv]
     congr 1;rw[eq_iff_iff];have h5:=Db (val m) (val d);rw[td,Ja]at h5;constructor
     ·intro h6
      have h7:val m/val d≠0:=O'
      have:val m≠0:=λh8=>h7 (by rw[h8,uf])
      omega
     ·intro h6
      have h7:val m/val d≠0:=λh8=>by rw[h8,Ob]at h5;omega
      omega
   rw[hs];rfl
  ·exact DY _
 ·by_cases yz:g=1
  ·have hT1:=λq=>yQ N n q m hm
   have Kc:=λq=>aI N.toc6 d q hd.1 (by have:=hd.2;omega)
   repeat' (first|apply AG<;>intro hc<;>try omega|apply AP|apply AE|refine AD (Dz _ _) ?_|refine AD (hG _ _) ?_|refine EN (h1 _) (λhf=>?_) (λhf=>?_)|refine AD (hT1 _) ?_|refine AD (Kc _) ?_)<;>conv=>whnf
   ·refine AW ?_ (eE _ _ _)
    show _=AV.agg (rQ _ _ _ _ _);rw[e1,e2,e3,yz,gf,gf]
   ·exact absurd yz hf
  ·have sg:Sm 549755813888 (dg g):=hd.low Ei
   have Bz:=λq q'=>fS N.toc6 m (dg g) q q' hm.1 sg.1 hm.2 sg.2 (by rw[BQ];omega)
   have Ca:=λq q'=>fS N.toc6 d (dg g) q q' hd.1 sg.1 hd.2 sg.2 (by rw[BQ];omega)
   rw[BQ]at Bz Ca;repeat' (first|apply AG<;>intro hc<;>try omega|apply AP|apply AE|refine AD (Dz _ _) ?_|refine AD (hG _ _) ?_|refine EN (h1 _) (λhf=>?_) (λhf=>?_)|refine AD (Bz _ _) ?_|refine AD (Ca _ _) ?_)<;>conv=>whnf
   ·exact absurd hf yz
   ·refine AW ?_ (eE _ _ _)
    show _=AV.agg (rQ _ _ _ _ _);rw[e1,e2,e3,Lg];have hs:n=decide (zv n m<0):=by
     have:val m≠0:=λh=>td (by rw[h,Nat.zero_mod])
     cases n
     ·exact GF (by rw[FI];omega)
     ·exact MC (by rw[OH];omega)
    rw[<-hs]
theorem V5(N:a6 L)(m:u_):Ev L 91 [.sl false (m.map AJ)] (.agg [.bool false,.sl false (m.map AJ)]):=by
 refine Ev.x N.TU rfl rfl ?_;(repeat' (apply AE<;>conv=>whnf))
 exact AW rfl (vK _ _)
def Afh(n:Bool)(m d:u_)(n':Bool)(m' d':u_)(w:Bool)(k:Nat):Prop:=Sm k m'/\Sm k d'/\val d'≠0/\(w=true->val d'=1)/\qv n m d=mkRat (zv n' m') (val d')
theorem NZ(N:a6 L)(n:Bool)(m d:u_)(k:Nat)(hk:1<=k/\k<=549755813888)(hm:Sm k m)(hd:Sm k d):∃n' m' d' w,Ev L 89 [.agg (rQ false false n m d)] (.agg [.bool n',.sl false (m'.map AJ),.sl false (d'.map AJ),.bool w])/\Afh n m d n' m' d' w k:=by
 have s8:=λq q'=>Q2 N.toc6 d [] q q' hd.1 X7 (by have:=hd.2;omega) Z'
 rw[KR]at s8;by_cases h1:d=[1]
 ·subst h1
  refine⟨n,m,[1],true,?_,hm,hd,Y',λ_=>rfl,rfl⟩;refine Ev.x N.NH rfl rfl ?_;have hd:[1][(0:Int).toNat]?=some 1:=rfl;have ub:([1]:u_).length=1:=rfl;repeat' (first|apply AG<;>intro hc<;>try omega|apply AP|refine A5 V' ?_ rfl ?_;omega|apply AE)<;>conv=>whnf
  exact AW rfl (Z5 _ _ _ _)
 have q6:∀x,d[(0:Int).toNat]?=some x->(d.length:Int)=1->(x:Int)≠1:=λx hx hl h=>by
  obtain⟨y,rfl⟩:=Bb.1 (show d.length=1 by omega);simp at hx;apply h1;congr 1;omega
 by_cases h0:val d=0
 ·refine⟨false,[],[1],true,?_,Ws _,rS hk.1 O',Y',λ_=>rfl,by unfold qv;rw[h0,eg,Aeg,gg]⟩
  have hn:DL (val d) (0:Nat)=0:=(VT O').symm;rw[hn]at s8;refine Ev.x N.NH rfl rfl ?_;have hD:=hd.1;repeat' (first|apply AG<;>intro hc<;>try omega|apply AP|refine RW V' ?_ (λe he hb=>?_);omega|refine JP rfl ?_|apply AE|refine AD (s8 _ _) ?_)<;>conv=>whnf
  all_goals first
   |exact AW rfl (Z5 _ _ _ _)
   |exact AW rfl (Z5 false true [] [1])
   |exact absurd V' (q6 _ he V')
 ·refine⟨n,m,d,false,?_,hm,hd,h0,(λh=>by cases h),rfl⟩
  have hn:DL (val d) (0:Nat)=1:=(OP O').symm;rw[hn]at s8;have hD:=hd.1;refine Ev.x N.NH rfl rfl ?_;repeat' (first|apply AG<;>intro hc<;>try omega|apply AP|refine RW V' ?_ (λe he hb=>?_);omega|apply AE|refine AD (s8 _ _) ?_)<;>conv=>whnf
  all_goals first
   |exact AW rfl (Z5 _ _ _ _)
   |exact AW rfl (Z5 false true [] [1])
   |exact absurd V' (q6 _ he V')
theorem zU(N:a6 L)(n q1 q2:Bool)(m d:u_)(hm:Sm 549755813888 m)(hd:Sm 549755813888 d):Ev L 95 [.agg (rQ q1 q2 n m d)] (.agg (eQ (qv n m d))):=by
 obtain⟨n',m',d',w,hr,s1,s2,s3,s4,s5⟩:=NZ N n m d 549755813888 O' hm hd;have hl:=λq1 q2=>YB N n' q1 q2 m' d' s1 s2 s3
 rw[s5];unfold qv at hl;refine Ev.x N.TR rfl rfl ?_;repeat' (first|apply IC|apply AE|refine AD (hr) ?_|refine AD (hl _ _) ?_)<;>conv=>whnf
 exact AW rfl (DY _)
theorem zQ(N:a6 L)(n q1 q2:Bool)(m d:u_)(hm:Sm 549755813888 m)(hd:Sm 549755813888 d):Ev L 97 [.agg (rQ q1 q2 n m d)] (.int .i64 (w6 (qv n m d).num)):=by
 obtain⟨n',m',d',w,hr,s1,s2,s3,s4,s5⟩:=NZ N n m d 549755813888 O' hm hd;have hl:=λq=>fR N n' q m' s1
 rw[s5,Vb s3];refine Ev.x N.TP rfl rfl ?_;repeat' (first|apply IC|apply AE|refine AD (hr) ?_|refine AD (hl _) ?_)<;>conv=>whnf
 exact BP rfl
theorem kY(z:Int):AV.agg [.bool (decide (z<0)),.sl false ((dg z.natAbs).map AJ),.sl false [[.int .u32 1]]] = .agg (eQ (z:Rat)):=by
 show _=AV.agg (rQ _ _ _ _ _);rw[Ef,Df,lY];rfl
theorem JG(N:a6 L)(z:Int)(hz:-9223372036854775808<=z/\z<=9223372036854775807):Ev L 96 [.int .i64 z] (.agg (eQ (z:Rat))):=by
 have h1:=mS N z hz;refine Ev.x N.TN rfl rfl ?_;repeat' (first|apply AE|refine AD (h1) ?_)<;>conv=>whnf
 refine EZ 1000 N.LG rfl rfl ?_;(repeat' (apply AE<;>conv=>whnf))
 refine⟨rfl,?_⟩;conv=>whnf
 (repeat' (refine JP rfl ?_<;>conv=>whnf))
 exact AW (kY z) (DY _)
theorem W2{k l:Nat}{n1 n2:Bool}{a b:u_}(ha:Sm k a)(hb:Sm l b):Sm (k+l) (dg (zv n1 a*zv n2 b).natAbs):=ha.mul hb (by rw[Lb,FV,FV])
theorem Wu{k:Nat}{x y:Int}(ha:Sm k (dg x.natAbs))(hb:Sm k (dg y.natAbs)):Sm (k+1) (dg (x+y).natAbs):=ha.add hb (by rw[BQ,BQ];omega)
theorem zO(N:a6 L)(k:Nat)(hk:1<=k/\k<=68719476736)(n1 n2 q1 q2 q3 q4:Bool)(m1 d1 m2 d2:u_)(ix:Sm k m1)(qf:Sm k d1)(ji:Sm k m2)(tv:Sm k d2) :
  Ev L 98 [.agg (rQ q1 q2 n1 m1 d1),.agg (rQ q3 q4 n2 m2 d2)] (.agg (eQ (qv n1 m1 d1+qv n2 m2 d2))):=by
 obtain⟨a1,a2,a3,w1,gd,s1,s2,s3,s4,s5⟩:=NZ N n1 m1 d1 k O' ix qf;obtain⟨b1,b2,b3,w2,dn,t1,t2,t3,t4,t5⟩:=NZ N n2 m2 d2 k O' ji tv;rw[s5,t5];have hA:=λq q'=>yO N a1 b1 q q' a2 b2 (s1.le O') (t1.le O')
 have zs:Sm (k+1) (dg (zv a1 a2+zv b1 b2).natAbs):=Wu (by rw[FV];exact s1.yf) (by rw[FV];exact t1.yf);by_cases hw:w1=true/\w2=true
 ·obtain⟨rfl,rfl⟩:=hw
  rw[s4 rfl,t4 rfl,Uy O',Va];generalize zv a1 a2+zv b1 b2=z at*;refine Ev.x N.NG rfl rfl ?_;repeat' (first|apply IC|apply AE|refine AD (gd) ?_|refine AD (dn) ?_|refine AD (hA _ _) ?_)<;>conv=>whnf
  refine EZ 1000 N.LG rfl rfl ?_;(repeat' (apply AE<;>conv=>whnf))
  refine⟨rfl,?_⟩;conv=>whnf
  (repeat' (refine JP rfl ?_<;>conv=>whnf))
  exact AW (kY z) (DY _)
 ·have s8:=λq q'=>Q2 N.toc6 a3 b3 q q' s2.1 t2.1 (by have:=s2.2;omega) (by have:=t2.2;omega)
  by_cases hde:val a3=val b3
  ·have hn:DL (val a3) (val b3)=0:=(VT O').symm
   rw[hn]at s8;rw[<-hde,Uy s3];generalize zv a1 a2+zv b1 b2=z at*;have hl:=λq1 q2=>YB N (decide (z<0)) q1 q2 (dg z.natAbs) a3 (zs.le O') (s2.le O') s3
   unfold qv at hl;rw[GW]at hl;refine Ev.x N.NG rfl rfl ?_;cases w1<;>cases w2
   ·repeat' (first|apply AG<;>intro hc<;>try omega|apply IC|apply AE|refine AD (gd) ?_|refine AD (dn) ?_|refine AD (hA _ _) ?_|refine AD (s8 _ _) ?_|refine AD (hl _ _) ?_)<;>conv=>whnf
    exact AW rfl (DY _)
   ·repeat' (first|apply AG<;>intro hc<;>try omega|apply IC|apply AE|refine AD (gd) ?_|refine AD (dn) ?_|refine AD (hA _ _) ?_|refine AD (s8 _ _) ?_|refine AD (hl _ _) ?_)<;>conv=>whnf
    exact AW rfl (DY _)
   ·repeat' (first|apply AG<;>intro hc<;>try omega|apply IC|apply AE|refine AD (gd) ?_|refine AD (dn) ?_|refine AD (hA _ _) ?_|refine AD (s8 _ _) ?_|refine AD (hl _ _) ?_)<;>conv=>whnf
    exact AW rfl (DY _)
   ·exact absurd ⟨rfl,rfl⟩ hw
  ·have hn:DL (val a3) (val b3)≠0:=by unfold DL;split<;>(try split)<;>omega
   generalize DL (val a3) (val b3)=cm at*;have kx:=λq q'=>V3 N a1 false q q' a2 b3 s1.1 t2.1 (by have:=s1.2;have:=t2.2;omega)
   have nm:=λq q'=>V3 N b1 false q q' b2 a3 t1.1 s2.1 (by have:=t1.2;have:=s2.2;omega)
   have tp:=λq q'=>mU N.toc6 a3 b3 q q' s2.1 t2.1 (by have:=s2.2;have:=t2.2;omega)
   have wj:=V5 N a3;have wk:=V5 N b3;have g1:Sm (k+k) (dg (zv a1 a2*zv false b3).natAbs):=W2 s1 t2;have g2:Sm (k+k) (dg (zv b1 b2*zv false a3).natAbs):=W2 t1 s2;have g3:=Wu g1 g2;have g4:Sm (k+k) (dg (val a3*val b3)):=s2.mul t2 rfl;rw[iD s3 t3,<-FI b3,<-FI a3];have Cp:val a3*val b3≠0:=Le s3 t3;generalize zv a1 a2*zv false b3=x at*;generalize zv b1 b2*zv false a3=y at*;generalize val a3*val b3=D at*;have Js:=λq q'=>yO N (decide (x<0)) (decide (y<0)) q q' (dg x.natAbs) (dg y.natAbs) (g1.le O') (g2.le O')
   rw[GW,GW]at Js;generalize x+y=z at*;have hl:=λq1 q2=>YB N (decide (z<0)) q1 q2 (dg z.natAbs) (dg D) (g3.le O') (g4.le O') (by rw[BQ];exact Cp)
   unfold qv at hl;rw[GW,BQ]at hl;refine Ev.x N.NG rfl rfl ?_;cases w1<;>cases w2
   ·repeat' (first|apply AG<;>intro hc<;>try omega|apply IC|apply RT|apply AE|refine AD (gd) ?_|refine AD (dn) ?_|refine AD (s8 _ _) ?_|refine AD (wj) ?_|refine AD (wk) ?_|refine AD (kx _ _) ?_|refine AD (nm _ _) ?_|refine AD (Js _ _) ?_|refine AD (tp _ _) ?_|refine AD (hl _ _) ?_)<;>conv=>whnf
    exact AW rfl (DY _)
   ·repeat' (first|apply AG<;>intro hc<;>try omega|apply IC|apply RT|apply AE|refine AD (gd) ?_|refine AD (dn) ?_|refine AD (s8 _ _) ?_|refine AD (wj) ?_|refine AD (wk) ?_|refine AD (kx _ _) ?_|refine AD (nm _ _) ?_|refine AD (Js _ _) ?_|refine AD (tp _ _) ?_|refine AD (hl _ _) ?_)<;>conv=>whnf
    exact AW rfl (DY _)
   ·repeat' (first|apply AG<;>intro hc<;>try omega|apply IC|apply RT|apply AE|refine AD (gd) ?_|refine AD (dn) ?_|refine AD (s8 _ _) ?_|refine AD (wj) ?_|refine AD (wk) ?_|refine AD (kx _ _) ?_|refine AD (nm _ _) ?_|refine AD (Js _ _) ?_|refine AD (tp _ _) ?_|refine AD (hl _ _) ?_)<;>conv=>whnf
    exact AW rfl (DY _)
   ·exact absurd ⟨rfl,rfl⟩ hw
theorem zP(N:a6 L)(k:Nat)(hk:1<=k/\k<=68719476736)(n1 n2 q1 q2 q3 q4:Bool)(m1 d1 m2 d2:u_)(ix:Sm k m1)(qf:Sm k d1)(ji:Sm k m2)(tv:Sm k d2) :
  Ev L 99 [.agg (rQ q1 q2 n1 m1 d1),.agg (rQ q3 q4 n2 m2 d2)] (.agg (eQ (qv n1 m1 d1*qv n2 m2 d2))):=by
 obtain⟨a1,a2,a3,w1,gd,s1,s2,s3,s4,s5⟩:=NZ N n1 m1 d1 k O' ix qf;obtain⟨b1,b2,b3,w2,dn,t1,t2,t3,t4,t5⟩:=NZ N n2 m2 d2 k O' ji tv;rw[s5,t5,pJ];have kx:=λq q'=>V3 N a1 b1 q q' a2 b2 s1.1 t1.1 (by have:=s1.2;have:=t1.2;omega)
 have tp:=λq q'=>mU N.toc6 a3 b3 q q' s2.1 t2.1 (by have:=s2.2;have:=t2.2;omega)
 have g1:Sm (k+k) (dg (zv a1 a2*zv b1 b2).natAbs):=W2 s1 t1;have g4:Sm (k+k) (dg (val a3*val b3)):=s2.mul t2 rfl;have Cp:val a3*val b3≠0:=Le s3 t3;generalize zv a1 a2*zv b1 b2=z at*;by_cases hw:w1=true/\w2=true
 ·obtain⟨rfl,rfl⟩:=hw
  rw[s4 rfl,t4 rfl,mc,Va];refine Ev.x N.PK rfl rfl ?_;repeat' (first|apply IC|apply AE|refine AD (gd) ?_|refine AD (dn) ?_|refine AD (kx _ _) ?_)<;>conv=>whnf
  refine EZ 1000 N.LG rfl rfl ?_;(repeat' (apply AE<;>conv=>whnf))
  refine⟨rfl,?_⟩;conv=>whnf
  (repeat' (refine JP rfl ?_<;>conv=>whnf))
  exact AW (kY z) (DY _)
 ·generalize val a3*val b3=D at*
  have hl:=λq1 q2=>YB N (decide (z<0)) q1 q2 (dg z.natAbs) (dg D) (g1.le O') (g4.le O') (by rw[BQ];exact Cp)
  unfold qv at hl;rw[GW,BQ]at hl;refine Ev.x N.PK rfl rfl ?_;cases w1<;>cases w2
  ·repeat' (first|apply IC|apply AE|refine AD (gd) ?_|refine AD (dn) ?_|refine AD (kx _ _) ?_|refine AD (tp _ _) ?_|refine AD (hl _ _) ?_)<;>conv=>whnf
   exact AW rfl (DY _)
  ·repeat' (first|apply IC|apply AE|refine AD (gd) ?_|refine AD (dn) ?_|refine AD (kx _ _) ?_|refine AD (tp _ _) ?_|refine AD (hl _ _) ?_)<;>conv=>whnf
   exact AW rfl (DY _)
  ·repeat' (first|apply IC|apply AE|refine AD (gd) ?_|refine AD (dn) ?_|refine AD (kx _ _) ?_|refine AD (tp _ _) ?_|refine AD (hl _ _) ?_)<;>conv=>whnf
   exact AW rfl (DY _)
  ·exact absurd ⟨rfl,rfl⟩ hw
theorem eF(x:Rat)(e:Int):AY (.j5 [.agg (eQ x),.int .i64 e]):=by
 simp only[AY,BK,and_true,true_and];exact⟨C8 _,C8 _⟩
theorem AjD(N:a6 L)(k:Nat)(hk:1<=k/\k<=68719476736)(n1 n2 q1 q2 q3 q4:Bool)(m1 d1 m2 d2:u_)(ix:Sm k m1)(qf:Sm k d1)(ji:Sm k m2)(tv:Sm k d2)(h0:qv n2 m2 d2≠0) :
  Ev L 100 [.agg (rQ q1 q2 n1 m1 d1),.agg (rQ q3 q4 n2 m2 d2)] (.j5 [.agg (eQ (qv n1 m1 d1/qv n2 m2 d2)),.int .i64 0]):=by
 obtain⟨a1,a2,a3,w1,gd,s1,s2,s3,s4,s5⟩:=NZ N n1 m1 d1 k O' ix qf;obtain⟨b1,b2,b3,w2,dn,t1,t2,t3,t4,t5⟩:=NZ N n2 m2 d2 k O' ji tv;rw[t5]at h0;rw[s5,t5];have jn:zv b1 b2≠0:=λh=>h0 ((pK t3).2 h)
 rw[AlK s3 t3 jn];have hS:=λq=>fR N b1 q b2 (t1.le O')
 have zp:w6 (zv b1 b2)≠0:=by unfold w6;split<;>(try split)<;>omega
 have kx:=λq q'=>V3 N a1 false q q' a2 b3 s1.1 t2.1 (by have:=s1.2;have:=t2.2;omega)
 have nm:=λq q'=>V3 N false b1 q q' a3 b2 s2.1 t1.1 (by have:=t1.2;have:=s2.2;omega)
 have wj:=V5 N a3;have wk:=V5 N b3;have g1:Sm (k+k) (dg (zv a1 a2*zv false b3).natAbs):=W2 s1 t2;have g2:Sm (k+k) (dg (zv false a3*zv b1 b2).natAbs):=W2 s2 t1;have hd:(zv false a3*zv b1 b2).natAbs=val a3*(zv b1 b2).natAbs:=by rw[Lb,FV]
 have uv:(zv false a3*zv b1 b2).sign=(zv b1 b2).sign:=by
  rw[Int.sign_mul,FI,Bc O',df]
 have rp:zv false a3*zv b1 b2≠0:=by
  intro h;rw[h]at uv;exact jn (by simpa using uv.symm)
 rw[<-hd,<-uv,<-FI b3];generalize zv a1 a2*zv false b3=x at*;generalize zv false a3*zv b1 b2=y at*;generalize w6 (zv b1 b2)=sg at*;have hl:=λq1 q2=>YB N (decide (x<0) != decide (y<0)) q1 q2 (dg x.natAbs) (dg y.natAbs) (g1.le O') (g2.le O') (by rw[BQ];omega)
 unfold qv at hl;rw[Aeh rp,BQ]at hl;refine Ev.x N.TK rfl rfl ?_;repeat' (first|apply AG<;>intro hc<;>try omega|apply IC|apply RT|apply AE|refine AD (gd) ?_|refine AD (dn) ?_|refine AD (hS _) ?_|refine AD (wj) ?_|refine AD (wk) ?_|refine AD (kx _ _) ?_|refine AD (nm _ _) ?_)<;>conv=>whnf
 refine EZ 1000 N.PL rfl rfl ?_;(repeat' (apply AE<;>conv=>whnf))
 generalize decide (x<0)=p at*;generalize decide (y<0)=r at*;cases p<;>cases r;all_goals
  (conv=>whnf)
  refine⟨rfl,?_⟩;conv=>whnf
  (repeat' (refine AD (hl _ _) ?_<;>conv=>whnf))
  exact AW rfl (eF _ _)
theorem AiD(N:aw L)(S:HX)(n k:Nat)(h:S.Ok n k)(hn:n<=64):Ev L 136 [.agg (eS S)] (.bool true):=by
 have h1:=h.la;have h2:=h.lb;have h3:=h.lc;refine Ev.x N.PV rfl rfl ?_;repeat' (first|apply AG<;>intro hc<;>try omega|apply AP|apply AE)<;>conv=>whnf
 refine DG (λi=>S.a.length-i) (λ(i:Nat)=>i<=S.a.length) (λi=>[(4,.int .i64 i)]) (λ_=>[]) 0 O' ?_;intro i p1 ih;by_cases hi:i<S.a.length
 ·obtain⟨r,hr⟩:=N' S.a i hi
  have uz:S.a[(i:Int).toNat]?=some r:=hr;have il:=h.lr r (zM hr);repeat' (first|apply AG<;>intro hc<;>try omega|apply AR;omega|apply AP|refine A5 V' ?_ rfl ?_;omega|apply AE)<;>conv=>whnf
  exact BF [] (ih (i+1) O' O')
 ·obtain rfl:i=S.a.length:=O'
  clear ih;repeat' (first|apply AG<;>intro hc<;>try omega|apply AE)<;>conv=>whnf
  exact E9 rfl
theorem yF(N:aw L)(a b:o_)(q1 q2:Bool)(k s:Nat)(hl:a.length=b.length)(ha:Bs k a)(hb:Bs s b)(hK:a.length*(k+s+1)+k+s<2199023255552)(na:a.length<=1099511627776):Ev L 137 [.sl q1 (a.map eQ),.sl q2 (b.map eQ)] (.agg (eQ (BT a b))):=by
 have hO:=NY N.tob7 0 O';refine Ev.x N.PU rfl rfl ?_;repeat' (first|apply AE|refine AD (hO) ?_)<;>conv=>whnf
 refine EE (λi _=>a.length-i) (λ(i:Nat)(acc:Rat)=>i<=a.length/\acc=BT (a.take i) (b.take i)) (λi acc=>[(6,.int .i64 i)]) (λi acc=>[(5,5,.bx (eQ acc))]) 0 ((0:Int):Rat) ⟨O',by simp[BT]⟩ ?_;intro i acc ⟨p1,p2⟩ ih;by_cases hi:i<a.length
 ·obtain⟨x,hx⟩:=N' a i hi
  obtain⟨y,hy⟩:=N' b i;have ve:a[(i:Int).toNat]?=some x:=hx;have Be:b[(i:Int).toNat]?=some y:=hy;have bx:=ha.at hx;have by':=hb.at hy
  have hM:=V4 N.tob7 bx by' O' O'
  have Np:Bt (a.length*(k+s+1)) acc:=by
   rw[p2];have:=(ha.take i).dot (hb.take i)
   refine this.le (zR _ ?_);rw[ja];omega
  have hA:=Q1 N.tob7 Np (bx.mul by') O' O';have o7:=aG hx hy;repeat' (first|apply AG<;>intro hc<;>try omega|apply AR;omega|apply AP|refine A5 V' ?_ rfl ?_;omega|apply AE|refine AD (hM) ?_|refine AD (hA) ?_)<;>conv=>whnf
  refine BB [] E' (ih (i+1) (acc+x*y) O' ⟨O',?_⟩);rw[o7,<-p2]
 ·obtain rfl:i=a.length:=O'
  clear ih;rw[fI rfl]at p2;rw[<-p2];repeat' (first|apply AG<;>intro hc<;>try omega|apply AP|apply AE)<;>conv=>whnf
  exact AW rfl (DY _)
end Go.e9

namespace Go.e9
theorem AeX{w:Wd}{v:Int}(h:FT w v):-8388608<=v/\v<=8388608:=by
 obtain⟨hw,e1,e2⟩:=h;obtain⟨h1,h2,h3,h4⟩:=RB hw;omega
variable {b a:List Int} {d c:Wd}
end Go.e9

namespace Go.e9
def FQ:List Int->Nat->List Int
 |[],_=>[]
 |b::box,k=>(((k/BX box%(2*b+1).toNat:Nat):Int)-b)::FQ box k
theorem pX:∀(box:List Int)(k:Nat),(FQ box k).length=box.length
 |[],_=>rfl
 |b::box,k=>by simp only[FQ,Ic,pX box k]
theorem pW:∀{box:List Int},(∀b∈box,0<=b)->∀k,CK box (FQ box k)
 |[],_,_=>trivial
 |b::box,h,k=>by
  have h0:=h b ta;have h1:=Pa (k/BX box) (show 0<(2*b+1).toNat by omega);refine⟨?_,pW (λx hx=>h x (Oa _ hx)) k⟩;generalize k/BX box%(2*b+1).toNat=m at*;show -b<=(m:Int)-b/\(m:Int)-b<=b;omega
theorem Ug:∀{box s:List Int},CK box s->∀q:Nat,FQ box (B8 box s+q*BX box)=s
 |[],[],_,_=>rfl
 |[],_::_,h,_=>h.elim
 |_::_,[],h,_=>h.elim
 |b::box,v::s,h,q=>by
  obtain⟨⟨h1,h2⟩,h3⟩:=h;have hl:=JS h3;have e:B8 (b::box) (v::s)+q*BX (b::box)=B8 box s+((v+b).toNat+q*(2*b+1).toNat)*BX box:=by
   simp only[B8,BX];rw[ff,Hd,Eg _ (B8 box s),Jg]
  rw[e];simp only[FQ];rw[Ug h3,Nat.add_mul_div_right _ _ O',yb hl,db,Nat.add_mul_mod_self_right,tb O'];congr 1;omega
theorem iM{box s:List Int}(h:CK box s):FQ box (B8 box s)=s:=by
 have:=Ug h 0
 rwa [Dc,Ja]at this
theorem Rl:∀{box:List Int},(∀b∈box,0<=b)->∀k,B8 box (FQ box k)=k%BX box
 |[],_,k=>by simp[B8,BX,FQ,Nat.mod_one]
 |b::box,h,k=>by
  have h0:=h b ta;have ih:=Rl (λx hx=>h x (Oa _ hx)) k;simp only[FQ,B8,BX,ih];have e:(((k/BX box%(2*b+1).toNat:Nat):Int)-b+b).toNat=k/BX box%(2*b+1).toNat:=O'
  rw[e,Ga (2*b+1).toNat,Nat.mod_mul,Ga (BX box),Eg]
theorem Rk{box:List Int}(h:∀b∈box,0<=b){k:Nat}(hk:k<BX box):B8 box (FQ box k)=k:=by rw[Rl h,tb hk]
theorem Rj:∀{box s t:List Int},CK box s->CK box t->(B8 box s<B8 box t↔B6 s t<0)
 |[],[],[],_,_=>by simp[B8,B6]
 |[],_::_,_,h,_=>h.elim
 |_::_,[],_,h,_=>h.elim
 |[],[],_::_,_,h=>h.elim
 |_::_,_::_,[],_,h=>h.elim
 |b::box,v::s,w::t,h,h'=>by
  obtain⟨⟨h1,h2⟩,h3⟩:=h;obtain⟨⟨g1,g2⟩,g3⟩:=h';have l1:=JS h3;have l2:=JS g3;have ih:=Rj h3 g3;simp only[B8,B6];by_cases c1:v<w
  ·rw[if_pos c1]
   have:(v+b).toNat+1<=(w+b).toNat:=O'
   have:=zR (BX box) this
   rw[Gg]at this;omega
  ·rw[if_neg c1]
   by_cases c2:w<v
   ·rw[if_pos c2]
    have:(w+b).toNat+1<=(v+b).toNat:=O'
    have:=zR (BX box) this
    rw[Gg]at this;omega
   ·rw[if_neg c2]
    obtain rfl:v=w:=O'
    omega
section
variable (f:List Int->List Int) (box:List Int)
def N6(t:List Int):Int:=if J7 box t then(B8 box t:Int)else -1
def TD:List Int:=(Je (BX box)).map λj=>N6 box (f (FQ box j))
def JT(seen:List (List Int×Int)):List Int:=(Je (BX box)).map λj=>(H7 seen (FQ box j)).getD 0
variable {f box}
theorem Xx{s:List Int}(h:CK box s):(TD f box)[B8 box s]?=some (N6 box (f s)):=by
 rw[TD,Fa,Ib (JS h),Gc,iM h]
theorem AlM{seen:List (List Int×Int)}{s:List Int}(h:CK box s):(JT box seen)[B8 box s]?=some ((H7 seen s).getD 0):=by
 rw[JT,Fa,Ib (JS h),Gc,iM h]
theorem bH(seen:List (List Int×Int)):(JT box seen).length=BX box:=by simp[JT]
theorem Ui:(TD f box).length=BX box:=by simp[TD]
theorem AlO(hb:∀b∈box,0<=b){seen:List (List Int×Int)}{s:List Int}(h:CK box s)(w:Int):(JT box seen).set (B8 box s) w=JT box ((s,w)::seen):=by
 apply ye;intro j;rw[Lc];by_cases hj:j<BX box
 ·have e:∀sn,(JT box sn)[j]?=some ((H7 sn (FQ box j)).getD 0):=λsn=>by rw[JT,Fa,Ib hj];rfl
  rw[e,e];by_cases hi:B8 box s=j
  ·rw[if_pos hi,bH,if_pos O',<-hi,iM h]
   simp[H7]
  ·rw[if_neg hi]
   simp only[H7];rw[if_neg λe2=>hi (by rw[e2,Rk hb hj])]
 ·have e:∀sn,(JT box sn)[j]?=none:=λsn=>tc (by rw[bH];omega)
  rw[e,e];split
  ·rw[bH,if_neg O']
  ·rfl
theorem AlN:JT box []=Ia (BX box) 0:=by
 apply ye;intro j;by_cases hj:j<BX box
 ·rw[JT,Fa,Ib hj,Hc,if_pos hj];rfl
 ·rw[tc (by rw[bH];omega),tc K']
end
abbrev Cy:=List (List Int)×List Int
def FO(c:Cy):List Int:=c.1.getD 0 []
structure VB(l0 l:List Cy)(i j:Nat):Prop where
 perm:l.Perm l0
 at_:j<=i
 fm:∀a b x y,a<b->b<=i->a≠j->b≠j->l[a]?=some x->l[b]?=some y->B6 (FO x) (FO y)<0
 low:∀b x y,j<b->b<=i->l[j]?=some x->l[b]?=some y->B6 (FO x) (FO y)<0
structure XP(l0 l:List Cy)(i:Nat):Prop where
 perm:l.Perm l0
 fm:∀a b x y,a<b->b<i->l[a]?=some x->l[b]?=some y->B6 (FO x) (FO y)<0
variable {l0 l:List Cy} {i j:Nat}
theorem XP.ins(h:XP l0 l i):VB l0 l i i:=⟨h.perm,ea _,λa b x y h1 h2 _ h4=>h.fm a b x y h1 O',λb x y h1 h2=>absurd h1 O'⟩
theorem VB.swap(h:VB l0 l i (j+1))(hi:i<l.length){x y:Cy}(hx:l[j+1]?=some x)(hy:l[j]?=some y)(hc:B6 (FO x) (FO y)<0):VB l0 ((l.set (j+1) y).set j x) i j:=by
 have Eo:=h.at_;have e:∀a,((l.set (j+1) y).set j x)[a]?=if a=j then some x else if a=j+1 then some y else l[a]? := λa=>by
  rw[Lc];by_cases h1:j=a
  ·subst h1;rw[if_pos rfl,List.length_set,if_pos O',if_pos rfl]
  ·rw[if_neg h1,if_neg (Ne.symm h1),Lc]
   by_cases h2:j+1=a
   ·subst h2;rw[if_pos rfl,if_pos O',if_pos rfl]
   ·rw[if_neg h2,if_neg (Ne.symm h2)]
 refine⟨?_,O',λa b p q h1 h2 h3 h4 hp hq=>?_,λb p q h1 h2 hp hq=>?_⟩
 ·refine List.Perm.trans ?_ h.perm
  have hj:j<l.length:=O'
  have hj1:j+1<l.length:=O'
  obtain rfl:l[j+1]=x:=ga ((zE hj1).symm.trans hx);obtain rfl:l[j]=y:=ga ((zE hj).symm.trans hy);exact List.set_set_perm hj1 hj
 ·rw[e,if_neg h3]at hp
  rw[e,if_neg h4]at hq;by_cases ha:a=j+1
  ·rw[if_pos ha]at hp
   rw[if_neg O']at hq;obtain rfl:=ga hp;exact h.fm j b y q O' h2 O' O' hy hq
  ·rw[if_neg ha]at hp
   by_cases hb:b=j+1
   ·rw[if_pos hb]at hq
    obtain rfl:=ga hq;exact h.fm a j p y O' O' O' O' hp hy
   ·rw[if_neg hb]at hq
    exact h.fm a b p q h1 h2 ha hb hp hq
 ·rw[e,if_pos rfl]at hp
  obtain rfl:=ga hp;rw[e,if_neg O']at hq;by_cases hb:b=j+1
  ·rw[if_pos hb]at hq
   obtain rfl:=ga hq;exact hc
  ·rw[if_neg hb]at hq
   exact h.low b x q O' h2 hx hq
theorem VB.stop(h:VB l0 l i j)(hi:i<l.length)(hn:(l0.map FO).Nodup)(hc:∀x y,0<j->l[j]?=some x->l[j-1]?=some y->¬B6 (FO x) (FO y)<0):XP l0 l (i+1):=by
 have Eo:=h.at_;have fg:(l.map FO).Nodup:=(h.perm.map FO).nodup_iff.2 hn;refine⟨h.perm,λa b x y h1 h2 hx hy=>?_⟩;by_cases ha:a=j
 ·subst ha;exact h.low b x y h1 O' hx hy
 by_cases hb:b=j
 ·subst hb
  obtain⟨p,hp⟩:=N' l (b-1);have ae:=hc y p O' hy hp;have k7:B6 (FO p) (FO y)<0:=by
   rw[VR]at ae;rcases vU (FO p) (FO y)with e|e|e
   ·omega
   ·exfalso
    have e2:=VS e;have:b-1=b:=(List.getElem?_inj (i:=b-1) (j:=b) H' fg).1 (by rw[Fa,Fa,hp,hy,Gc,Gc,e2])
    omega
   ·omega
  by_cases yq:a=b-1
  ·subst yq
   obtain rfl:=ga (hp.symm.trans hx);exact k7
  ·exact aB (h.fm a (b-1) x p O' O' O' O' hx hp) k7
 ·exact h.fm a b x y h1 O' ha hb hx hy
theorem aW{c:Cy}{s:List Int}(h:c.1[0]?=some s):FO c=s:=by rw[FO,Ie,h];rfl
theorem XP.ho(h:XP l0 l l.length)(i j:Nat)(x y:Cy)(hx:l[i]?=some x)(hy:l[j]?=some y)(jq:i<j)(s t:List Int)(hs:x.1[0]?=some s)(ht:y.1[0]?=some t):B6 s t<0:=by
 have:=h.fm i j x y jq (zS hy).1 hx hy
 rwa [aW hs,aW ht]at this
section
variable {f:List Int->List Int} {g:List Int->Int} {box s:List Int} {seen:List (List Int × Int)} {k:Nat} {w:Int}
theorem MK.step(hk:MK f box seen s k)(hb:CK box (AQ f k s))(hn:AQ f k s ∉ D5 (FH f seen s w k)):MK f box seen s (k+1):=by
 have h2:AQ f k s ∉ A6 f k s/\AQ f k s ∉ D5 seen:=⟨λh=>hn ((J5 f).2 (.inl h)),λh=>hn ((J5 f).2 (.inr h))⟩;refine⟨?_,λt ht=>?_,λt ht=>?_⟩
 ·rw[O8,ze]
  exact⟨hk.nd,Z',λa ha b j9 e=>h2.1 (by rw[Ha]at j9;rw[<-j9,<-e];exact ha)⟩
 ·rw[O8]at ht
  rcases Ba.1 ht with h|h
  ·exact hk.bx t h
  ·rw[Ha.1 h];exact hb
 ·rw[O8]at ht
  rcases Ba.1 ht with h|h
  ·exact hk.nw t h
  ·rw[Ha.1 h];exact h2.2
theorem Aob(hn:∀p∈seen,p.2<=w){v:Int}(hl:H7 (FH f seen s (w+1) k) (AQ f k s)=some v):(v≠w+1->AQ f k s∈D5 seen)/\(v=w+1->AQ f k s∈A6 f k s):=by
 have bu:=bD hl;refine⟨λh=>?_,λh=>?_⟩
 ·rcases Ba.1 bu with h'|h'
  ·obtain⟨u,_,e⟩:=nb.1 (sc.1 h')
   exact absurd (Prod.mk.inj e).2.symm h
  ·exact nb.2 ⟨_,h',rfl⟩
 ·rcases Ba.1 bu with h'|h'
  ·obtain⟨u,hu,e⟩:=nb.1 (sc.1 h')
   rw[<-(Prod.mk.inj e).1];exact hu
  ·have:=hn _ h'
   dsimp only at this;omega
theorem Xm(h:∀p∈seen,1<=p.2)(hw:1<=w):∀p∈FH f seen s w k,1<=p.2:=λp hp=>by
 rcases Ba.1 hp with h'|h'
 ·obtain⟨u,_,rfl⟩:=nb.1 (sc.1 h')
  exact hw
 ·exact h p h'
theorem IQ.uv{l:List Cy}(h:IQ f g box seen l w):(l.map FO).Nodup:=by
 rw[List.Nodup,List.pairwise_map,Jb];intro i j hi hj jq e;obtain⟨⟨s,m,h1⟩,_⟩:=h.pz _ (de hi);obtain⟨⟨t,q,h2⟩,_⟩:=h.pz _ (de hj);rw[aW h1.head,aW h2.head]at e;have:=h.As (zE hi) (zE hj) h1.head h2.head e
 omega
theorem LY.close{i k j:Nat}(hk:MK f box seen s k)(hi:i<k)(he:AQ f k s=AQ f i s)(hj:j<k-i)(kn:∀m,m<k-i->B8 box (AQ f j (AQ f k s))<=B8 box (AQ f m (AQ f k s))) :
  AQ f (k-i) (AQ f j (AQ f k s))=AQ f j (AQ f k s)/\(A6 f (k-i) (AQ f j (AQ f k s))).Nodup/\CK box (AQ f j (AQ f k s))/\LY f g box seen s k (some (A6 f (k-i) (AQ f j (AQ f k s)),(A6 f (k-i) (AQ f j (AQ f k s))).map g)):=by
 have ef:=YY (f:=f) i (k-i) s;rw[show i+(k-i)=k by omega]at ef;have Er:0<k-i:=O'
 have ep:AQ f (k-i) (AQ f i s)=AQ f i s:=by rw[<-G0,show i+(k-i)=k by omega,he]
 have hnd:(A6 f (k-i) (AQ f i s)).Nodup:=by rw[<-ef];exact hk.nd.sublist (xe _ _)
 have lg:∀t∈A6 f (k-i) (AQ f i s),CK box t:=λt ht=>hk.bx t (by rw[<-ef]at ht;exact pf ht)
 have Ek:∀m,AQ f m (AQ f i s)=AQ f (i+m) s:=λm=>(G0 i m s).symm
 rw[he]at kn⊢;have bu:∀t,t∈A6 f (k-i) (AQ f i s) ↔ ∃q,i<=q/\q<k/\t=AQ f q s:=λt=>by
  rw[FC];constructor
  ·rintro⟨m,hm,rfl⟩
   exact⟨i+m,O',O',Ek m⟩
  ·rintro⟨q,q1,q2,rfl⟩
   exact⟨q-i,O',by rw[Ek,show i+(q-i)=q by omega]⟩
 have yu:=G9.Re (g:=g) Er ep hnd hj (λt ht=>by
  obtain⟨m,hm,rfl⟩:=FC.1 ht;have h1:=kn m hm;have h2:=Rj (lg _ ht) (lg _ (FC.2 ⟨j,hj,rfl⟩));omega) lg
 have e:=cB ep (m:=j) O';have ji:∀t,t∈A6 f (k-i) (AQ f j (AQ f i s))↔t∈A6 f (k-i) (AQ f i s):=λt=>by rw[<-e];exact(UX j _).mem_iff
 rw[rB,e]at yu;exact⟨oP ep j,by rw[<-e];exact(UX j _).nodup_iff.2 hnd,lg _ (FC.2 ⟨j,hj,rfl⟩),.new i _ _ hi he yu λt=>(ji t).trans (bu t)⟩
theorem MK.ring{i k:Nat}(hk:MK f box seen s k)(hi:i<k)(he:AQ f k s=AQ f i s):AQ f (k-i) (AQ f k s)=AQ f k s/\(∀m,CK box (AQ f m (AQ f k s)))/\∀m,0<m->m<k-i->AQ f m (AQ f k s)≠AQ f k s:=by
 have Ek:∀m,AQ f m (AQ f i s)=AQ f (i+m) s:=λm=>(G0 i m s).symm
 have ep:AQ f (k-i) (AQ f i s)=AQ f i s:=by rw[Ek,show i+(k-i)=k by omega,he]
 rw[he];refine⟨ep,λm=>?_,λm h1 h2 e=>?_⟩
 ·obtain⟨q,hq,e⟩:=FC.1 (bC (show 0<k-i by omega) ep m)
  rw[e,Ek];exact hk.bx _ (FC.2 ⟨i+q,O',rfl⟩)
 ·rw[Ek]at e
  have:=YZ hk.nd (i:=i+m) (j:=i) O' O' e
  omega
theorem Uh{t:List Int}(h:CK box t):N6 box t=(B8 box t:Int):=by rw[N6,if_pos ((U1 (Q7 h)).2 h)]
end
end Go.e9

namespace Go.e9
variable {L:Lib}
def VF(M:Mem):Mem->Prop
 |[]=>True
 |(k,s,c)::r=>e8 M k=some (s,c)/\VF M r
theorem VF.get{M:Mem}:∀{M0:Mem},VF M M0->∀k s c,e8 M0 k=some (s,c)->e8 M k=some (s,c)
 |[],_,_,_,_,e=>by cases e
 |(i,s0,c0)::r,h,k,s,c,e=>by
  simp only[e8]at e;cases hb:Jd k i<;>simp only[hb,cond_true,cond_false]at e
  ·exact VF.get h.2 k s c e
  ·rw[BO.1 hb,<-e];exact h.1
theorem IE.sub{σ:GJ}{own:Own}{M M0:Mem}(h:IE σ own M)(hm:VF M M0):IE σ own M0:=by
 have hr:∀k t c,c8 M0 k t=some c->c8 M k t=some c:=λk t c e=>by
  obtain⟨s,c0,g,_⟩:=JL e;have g2:=hm.get k s c0 g;unfold c8 at e⊢;rw[g]at e;rw[g2];exact e
 exact⟨λk s c e=>h.site k s c (hm.get k s c e),λk t c e=>h.c9 k t c (hr k t c e),λk t c e=>h.old k t c (hr k t c e),λk t k' t' c c' e e'=>h.inj k t k' t' c c' (hr k t c e) (hr k' t' c' e'),λk t c e=>h.low k t c (hr k t c e)⟩
theorem cW{f:Nat}{vs:w_}{tm:Tm}{M:Mem}{K:AV->Mem->Prop}(h:A2 L f vs tm M λr M'=>∃M1,VF M' M1/\K r M1):A2 L f vs tm M K:=by
 intro σ own hs;obtain⟨r,q8,σ',M',h1,h2,h3,M1,h4,h5⟩:=h σ own hs;exact⟨r,q8,σ',M1,h1,h2.sub h4,h3,h5⟩
def iQ(ks:u_):AV->Bool
 |.row k t _ _ _=>Jd t 0&&LA k ks
 |.ptr k t _ _=>Jd t 0&&LA k ks
 |.mp k t=>Jd t 0&&LA k ks
 |_=>true
def bP(ks:u_):w_->Bool
 |[]=>true
 |v::r=>iQ ks v&&bP ks r
def qF(ks:u_):AV->Bool
 |.agg cs=>bP ks cs
 |.fn _ _ _ cs=>bP ks cs
 |v=>iQ ks v
def iR(ks:u_):w_->Bool
 |[]=>true
 |v::r=>qF ks v&&iR ks r
def qG(ks:u_):AV->Bool
 |.j5 vs=>iR ks vs
 |v=>qF ks v
def iS(ks:u_):Tm->Bool
 |[]=>true
 |(_,v)::r=>qG ks v&&iS ks r
theorem Up{k:Nat}:∀{l:u_},LA k l=true->k∈l
 |[],h=>by cases h
 |j::r,h=>by
  simp only[LA]at h;cases hb:Jd k j<;>simp only[hb,cond_true,cond_false]at h
  ·exact Oa _ (Up h)
  ·rw[BO.1 hb];exact ta
section
variable {ks:u_} {σ σ':GJ} (hs : ∀ k∈ks,σ' k 0=σ k 0)
include hs
theorem W6{v:AV}(h:iQ ks v=true):BA σ' v=BA σ v:=by
 cases v<;>try rfl
 all_goals
  simp only[iQ,Pb]at h;have h1:=BO.1 h.1;have h2:=hs _ (Up h.2);subst h1;simp only[BA,h2]
theorem sG:∀{l:w_},bP ks l=true->l.map (BA σ')=l.map (BA σ)
 |[],_=>rfl
 |v::r,h=>by
  simp only[bP,Pb]at h;rw[Gb,Gb,W6 hs h.1,sG h.2]
theorem sE{v:AV}(h:qF ks v=true):BN σ' v=BN σ v:=by
 cases v with
 |agg cs=>simp only[BN];rw[sG hs h]
 |fn p f g cs=>simp only[BN];rw[sG hs h]
 |row k t z o n=>exact W6 hs (v := .row k t z o n) h
 |ptr k t i j=>exact W6 hs (v := .ptr k t i j) h
 |mp k t=>exact W6 hs (v := .mp k t) h
 |_=>rfl
theorem Adr:∀{l:w_},iR ks l=true->l.map (BN σ')=l.map (BN σ)
 |[],_=>rfl
 |v::r,h=>by
  simp only[iR,Pb]at h;rw[Gb,Gb,sE hs h.1,Adr h.2]
theorem AnB{v:AV}(h:qG ks v=true):BD σ' v=BD σ v:=by
 cases v with
 |j5 vs=>simp only[BD];rw[Adr hs h]
 |agg cs=>exact sE hs (v := .agg cs) h
 |fn p f g cs=>exact sE hs (v := .fn p f g cs) h
 |row k t z o n=>exact W6 hs (v := .row k t z o n) h
 |ptr k t i j=>exact W6 hs (v := .ptr k t i j) h
 |mp k t=>exact W6 hs (v := .mp k t) h
 |_=>rfl
end
theorem Ye{ks:u_}:∀{tm:Tm},iS ks tm=true->∀j,qG ks (tg tm j)=true
 |[],_,_=>rfl
 |(i,v)::r,h,j=>by
  simp only[iS,Pb]at h;simp only[tg];cases hb:Jd j i<;>simp only[cond_true,cond_false]
  ·exact Ye h.2 j
  ·exact h.1
def cR:Nat->u_->Tm
 |_,[]=>[]
 |i,k::r=>(i,.ptr k 0 0 0)::cR (i+1) r
abbrev ZF(ks:u_):Tm:=cR 0 ks
theorem Zo:∀{ks:u_}{i k:Nat},k∈ks->∃j,i<=j/\tg (cR i ks) j = .ptr k 0 0 0
 |[],_,_,h=>by cases h
 |j::r,i,k,h=>by
  rcases Jc.1 h with rfl|e
  ·exact⟨i,ea _,by simp[cR,tg]⟩
  ·obtain⟨a,h1,h2⟩:=Zo (i:=i+1) e
   refine⟨a,O',?_⟩;simp only[cR,tg];rw[F7.2 (show a≠i by omega),cond_false];exact h2
theorem cX{f:Nat}{vs:w_}{tm:Tm}{M:Mem}{K:AV->Mem->Prop}(ks:u_)(M0:Mem)(hm:VF M M0)(ht:iS ks tm=true)(h:A2 L f vs (ZF ks) M0 K):A2 L f vs tm M K:=by
 intro σ own hs;obtain⟨r,q8,σ',M',h1,h2,h3,h4⟩:=h σ own (hs.sub hm);refine⟨r,q8,σ',M',h1,h2,λj=>?_,h4⟩;refine AnB (λk hk=>?_) (Ye ht j);obtain⟨j,_,hj⟩:=Zo (i:=0) hk;have:=h3 j
 rw[show tg (ZF ks) j=_ from hj]at this;simp only[BD,BN,BA,AV.ptr.injEq]at this;exact Prod.ext this.1 this.2.1
end Go.e9

namespace Go.e9
open F
variable {L:Lib}
def c7(n:Nt)(x:Int)(s:List Int):List Int:=IH n (F8 n (x::s) false n.nodes).1
def bj(n:Nt)(x:Int)(s:List Int):Int:=(F8 n (x::s) false n.nodes).1.getD n.out.toNat 0
structure EG(n:Nt)(s:List Int):Prop where
 len:(s.length:Int)=n.s
 wd:DX n.d s=true
theorem Aj2(n:Nt)(x:Int)(s:List Int):(c7 n x s).length=n.next.length:=by simp[c7,IH]
theorem EG.step{n:Nt}{x:Int}{s:List Int}(hv:DN n=true)(hx:FT n.d x)(h:EG n s):EG n (c7 n x s):=by
 obtain⟨g1,g2,g3,g4,g5,g6⟩:=(C1 n).1 hv;refine⟨by rw[Aj2];omega,Aj3 n ?_ g5 ?_⟩
 ·refine wB n g1 _ _ _ ?_
  simp only[DX,List.all_cons,Pb,decide_eq_true_eq];exact⟨hx,h.wd⟩
 ·rw[lO,Ic]
  have:=h.len
  omega
theorem EG.it{n:Nt}{x:Int}(hv:DN n=true)(hx:FT n.d x):∀(k:Nat){s:List Int},EG n s->EG n (AQ (c7 n x) k s)
 |0,_,h=>h
 |k+1,_,h=>EG.it hv hx k (h.step hv hx)
theorem EG.ft{n:Nt}{s:List Int}(h:EG n s):∀v∈s,FT n.d v:=λv hv=>of_decide_eq_true (Kb.1 h.wd v hv)
theorem yJ(I:a8 L)(J:k9 L){n:Nt}{x:Int}{s:List Int}(hv:DN n=true)(hx:FT n.d x)(h:EG n s)(q:Bool):Ev L 26 [.agg (B2 n),.sl q (s.map AZ),.int .i64 x] (.j5 [.sl false ((c7 n x s).map AZ),.int .i64 (bj n x s),.bool (F8 n (x::s) false n.nodes).2,.int .i64 0]):=by
 have:=yX n I J s q x (by have:=h.len;obtain⟨_,_,g3,_⟩:=(C1 n).1 hv;omega)
 rwa [Adw n hv h.len h.wd hx]at this
theorem EG.box{n:Nt}{box s:List Int}(hl:(box.length:Int)=n.s)(hw:DX n.d box=true)(h:CK box s):EG n s:=by
 have me:=Q7 h;refine⟨O',Kb.2 λv hv=>?_⟩;obtain⟨i,hi⟩:=List.getElem?_of_mem hv;have ic:=(zS hi).1;obtain⟨b,hb⟩:=N' box i;have h1:=aZ h hi hb;have h2:FT n.d b:=of_decide_eq_true (Kb.1 hw b (zM hb));obtain⟨w1,w2,w3⟩:=h2;obtain⟨l1,l2,l3,l4⟩:=RB w1;exact decide_eq_true ⟨w1,O',O'⟩
structure HB(s:List Int):Prop where
 len:s.length<=64
 Jl:∀v∈s,DJ v
theorem EG.vg{n:Nt}{s:List Int}(hv:DN n=true)(h:EG n s):HB s:=by
 obtain⟨_,_,g3,_⟩:=(C1 n).1 hv;refine⟨by have:=h.len;omega,λv iy=>?_⟩;have:=YG (h.ft v iy)
 exact⟨O',O'⟩
structure KT(L:Lib)(kB:List Int->ByteArray):Prop where
 no:L 432=none
 ext:∀(q:Bool)(s:List Int),HB s->L.ext 432 [.sl q (s.map AZ)]=some (.y8 (.string (kB s)))
 inj:∀s t,HB s->HB t->kB s=kB t->s=t
 size:∀s,HB s->(kB s).size<=100000
variable {kB:List Int->ByteArray}
theorem yR(Y:KT L kB){s:List Int}(h:HB s)(q:Bool):Ev L 432 [.sl q (s.map AZ)] (.y8 (.string (kB s))):=Ev.told Y.no (Y.ext q s h) (by simp[AY])
variable (kB) in
abbrev MQ(seen:List (List Int×Int)):v_:=seen.map λp=>[.y8 (.string (kB p.1)),.int .i64 p.2]
theorem Ady(Y:KT L kB){s t:List Int}(hs:HB s)(ht:HB t):MD (kB s) (kB t)=decide (s=t):=by
 by_cases h:s=t
 ·subst h
  rw[decide_eq_true rfl];exact cJ.2 rfl
 ·rw[decide_eq_false h]
  exact AnK.2 λe=>h (Y.inj s t hs ht e)
theorem Uu(Y:KT L kB){s:List Int}(hs:HB s):∀{seen:List (List Int×Int)},(∀t∈D5 seen,HB t)->HF (MQ kB seen) (kB s)=H7 seen s
 |[],_=>rfl
 |p::r,h=>by
  simp only[Gb,HF,H7];rw[Ady Y (h p.1 ta) hs,Uu Y hs λt ht=>h t (Oa _ ht)];by_cases e:p.1=s
  ·rw[decide_eq_true e,if_pos e,cond_true]
  ·rw[decide_eq_false e,if_neg e,cond_false]
theorem C3.seen(Y:KT L kB){s:List Int}(hs:HB s){seen:List (List Int×Int)}(hk:∀t∈D5 seen,HB t)(hl:seen.length<=1000000){K:Int->Bool->Prop}(h:K ((H7 seen s).getD 0) (H7 seen s).isSome):C3 (MQ kB seen) (kB s) K:=by
 refine⟨⟨by have:=Y.size s hs;omega,by rw[va];omega⟩,?_⟩;rw[Uu Y hs hk];exact h
theorem C4.seen(Y:KT L kB){s:List Int}(hs:HB s){seen:List (List Int×Int)}(hk:∀t∈D5 seen,HB t)(hl:seen.length<=1000000)(hn:s ∉ D5 seen){w:Int}(hw:DJ w){K:v_->Prop}(h:K (MQ kB ((s,w)::seen))):C4 (MQ kB seen) (kB s) w K:=by
 refine⟨⟨by have:=Y.size s hs;omega,by rw[va];omega,hw.1,hw.2⟩,?_⟩;have:S4 (MQ kB seen) (kB s) w=MQ kB ((s,w)::seen):=by
  show _::_=_::_;congr 1;rw[List.filter_eq_self];intro c hc;obtain⟨p,hp,rfl⟩:=nb.1 hc;have Es:p.1∈D5 seen:=nb.2 ⟨p,hp,rfl⟩;simp only[Ad];rw[Ady Y (hk _ Es) hs,decide_eq_false λ(e:p.1=s)=>hn (e▸Es)];rfl
 rw[this];exact h
theorem pH{f:List Int->List Int}{g:List Int->Int}{B:List Int->Prop}{p:Nat}{u:List Int}(hp:0<p)(hu:AQ f p u=u)(hn:(A6 f p u).Nodup)(hB:∀t∈A6 f p u,B t):G9 f g B (OX (A6 f p u,(A6 f p u).map g)) (AQ f (LB (A6 f p u) p) u) p:=by
 have hj:LB (A6 f p u) p<p:=by have:=iB (A6 f p u) p;omega
 unfold OX;rw[FZ];refine G9.Re hp hu hn hj (λt ht=>?_) hB;obtain⟨m,hm,rfl⟩:=FC.1 ht;have:=pI (A6 f p u) p m hm
 rwa [gH (O7 hm),gH (O7 hj)]at this
theorem Uv{f:List Int->List Int}{g:List Int->Int}(p:Nat)(u t:List Int):t∈(OX (A6 f p u,(A6 f p u).map g)).1 ↔ ∃j,j<p/\t=AQ f j u:=(UX _ _).mem_iff.trans FC
attribute [local irreducible] AA AF AX AC B4 AU A7 A8 BV BI B0 DS BG A1 BU CB AB A2 AH pw CG B3 CR DK C2 CO CJ BL CY C3 C4 CX C7
abbrev xQ(n:Nt)(x:Int)(q:Bool)(box:List Int)(w:Int):w_:=B2 n++[.int .i64 x,.sl q (box.map AZ),.mp 960028 0,.int .i64 w]
abbrev pF(n:Nt)(x:Int)(q:Bool)(box:List Int)(st:List Int)(es:v_)(S:v_)(w:Int):Mem:=[(3,3,.bx (B2 n)),(960028,960028,.rw 2 S),(9,9,.bx (xQ n x q box w)),(32,32,.rw 1 (st.map AZ)),(13,13,.rw 2 es)]
def Aif:Option (List (List Int)×List Int)->w_
 |some c=>EC c
 |none=>[.nil,.nil]
structure ZT(n:Nt)(x:Int)(box:List Int):Prop where
 er:DN n=true
 Qw:FT n.d x
 len:(box.length:Int)=n.s
 wd:DX n.d box=true
 nn:∀b∈box,0<=b
 Bo:BX box<=4096
theorem Agv(I:a8 L)(J:k9 L)(N:s9 L)(Y:KT L kB){n:Nt}{x:Int}{box:List Int}(hX:ZT n x box)(q:Bool)(st:List Int)(es:v_){seen:List (List Int×Int)}{w:Nat}{s:List Int}(hs:CK box s)(hb:∀t∈D5 seen,CK box t)(hn:∀p∈seen,p.2<=w)(me:(D5 seen).Nodup)(hw:w<=4096)
  (K:AV->Mem->Prop) (hK:∀k r,MK (c7 n x) box seen s k->LY (c7 n x) (bj n x) box seen s k r->K (.j5 [.agg (Aif r),.bool r.isSome,.int .i64 0]) (pF n x q box st es (MQ kB (FH (c7 n x) seen s (w+1) k)) (w+1))) :
  A2 L 431 [.ptr 9 0 0 0,.sl false (s.map AZ)] (ZF [3,960028,9,32,13,51]) (pF n x q box st es (MQ kB seen) w) K:=by
 have z8:=hX.er;obtain⟨g1,g2,g3,g4,g5,g6⟩:=(C1 n).1 z8;have lf:=hX.len;have k8:∀t,CK box t->EG n t:=λt h=>EG.box hX.len hX.wd h
 have hbw:∀b∈box,0<=b/\b<=9223372036854775807:=λb h=>⟨hX.nn b h,by have:=(YG (of_decide_eq_true (Kb.1 hX.wd b h))).2;omega⟩
 have hW:=λk=>EG.it z8 hX.Qw k (k8 s hs)
 refine cW ?_;refine EZ 1000 N.MX rfl rfl ?_;repeat' (first|apply AR;omega|apply AE)<;>conv=>whnf
 refine DG (λk=>4097-k) (λ(k:Nat)=>MK (c7 n x) box seen s k) (λk=>[(1,.sl false ((AQ (c7 n x) k s).map AZ)),(7,.row 431007 0 1 0 k),(8,.row 431008 0 1 0 k)]) (λk=>[(431007,431007,.rw 1 ((A6 (c7 n x) k s).map (IG false))),(431008,431008,.rw 1 (((A6 (c7 n x) k s).map (bj n x)).map AZ)),(960028,960028,.rw 2 (MQ kB (FH (c7 n x) seen s (w+1) k)))]) 0 ⟨ng,by simp[A6],by simp[A6]⟩ ?_;intro k hk ih;have ua:k<=4096:=by
  have:=pV hk.nd hk.bx
  rw[FZ]at this;have:=hX.Bo
  omega
 have zu:=hW k;have wg:∀t∈D5 (FH (c7 n x) seen s (w+1) k),HB t:=λt ht=>(k8 t (by rcases(J5 _).1 ht with h|h;exact hk.bx t h;exact hb t h)).vg z8
 have x8:(FH (c7 n x) seen s (w+1) k).length<=8192:=by
  have h1:=pV me hb;have h2:=hX.Bo;simp only[FH,Na,List.length_reverse,va,FZ];simp only[D5,va]at h1;omega
 have mn:=FZ (f:=c7 n x) k s;have zq:=O8 (f:=c7 n x) k s;have ik:=Q8 (f:=c7 n x) k s;have ud:=Xn (c7 n x) seen s (w+1) k;generalize hT:AQ (c7 n x) k s=T at*;have Ak:T.length=box.length:=by have:=zu.len;omega
 have Al:=zu.vg z8;have hTo:(((A6 (c7 n x) k s).map (bj n x)).map AZ).length=k:=by simp[mn]
 repeat' (first|apply AE|refine ZO (AjP N T box _ q Ak hbw O') (λhf=>?_) (λhf=>?_)|refine AD (yR Y Al _) ?_)<;>conv=>whnf
 ·refine C3.seen Y Al wg O' ?_
  cases nf:H7 (FH (c7 n x) seen s (w+1) k) T with
  |none=>
   have ma:=gW.1 nf;conv=>whnf
   skip
   refine C4.seen Y Al wg O' ma ⟨O',O'⟩ ?_;conv=>whnf
   repeat' (first|apply AG<;>intro hc<;>try omega|apply CT|refine AD (yJ I J z8 hX.Qw zu _) ?_)<;>conv=>whnf
   refine DH (enc:=IG false) T rfl mn.symm rfl O' O' ?_;rw[<-zq,FZ];conv=>whnf
   (repeat' (apply CT<;>conv=>whnf))
   refine DH (enc:=AZ) (bj n x T) rfl (by rw[va];exact mn.symm) rfl H' H' ?_;rw[show(A6 (c7 n x) k s).map (bj n x)++[bj n x T]=(A6 (c7 n x) (k+1) s).map (bj n x)by rw[zq,Gf];rfl,va,FZ];conv=>whnf
   skip
   have Hv:T ∉ A6 (c7 n x) k s/\T ∉ D5 seen:=⟨λh=>ma ((J5 _).2 (.inl h)),λh=>ma ((J5 _).2 (.inr h))⟩;have jt:=ih (k+1) O' ⟨by
    rw[zq,ze];exact⟨hk.nd,Z',λa ha b j9 e=>Hv.1 (by rw[Ha]at j9;rw[<-j9,<-e];exact ha)⟩,λt ht=>by
    rw[zq]at ht;rcases Ba.1 ht with h|h
    ·exact hk.bx t h
    ·rw[Ha.1 h];exact(U1 Ak).1 hf,λt ht=>by
    rw[zq]at ht;rcases Ba.1 ht with h|h
    ·exact hk.nw t h
    ·rw[Ha.1 h];exact Hv.2⟩
   rw[ik,ud]at jt;exact BB [(431007,431096),(431008,431100)] E' jt
  |some v=>
   have bu:=bD nf;have hold:v≠(w:Int)+1->T∈D5 seen:=λh=>by
    rcases Ba.1 bu with h'|h'
    ·obtain⟨u,_,e⟩:=nb.1 (sc.1 h')
     exact absurd (Prod.mk.inj e).2.symm h
    ·exact nb.2 ⟨_,h',rfl⟩
   have eh:v=(w:Int)+1->T∈A6 (c7 n x) k s:=λh=>by
    rcases Ba.1 bu with h'|h'
    ·obtain⟨u,hu,e⟩:=nb.1 (sc.1 h')
     rw[<-(Prod.mk.inj e).1];exact hu
    ·have:=hn _ h'
     dsimp only at this;omega
   clear bu;conv=>whnf
   repeat' (first|apply AG<;>intro hc<;>try omega|fail)<;>conv=>whnf
   ·refine⟨rfl,?_⟩
    (conv=>whnf)
    refine⟨_,?_,hK k none hk (.old (by rw[hT];exact hold hc))⟩;exact⟨rfl,rfl,rfl,rfl,rfl,trivial⟩
   ·obtain⟨i0,ml,Eb⟩:=FC.1 (eh hc)
    refine DG (λi=>k-i) (λ(i:Nat)=>i<=i0) (λi=>[(12,.int .i64 i)]) (λ_=>[]) 0 O' ?_;intro i hi jh;have o5:=O7 (f:=c7 n x) (k:=k) (j:=i) (s:=s) O';have hUw:=hW i;have Am:(AQ (c7 n x) i s).length<9223372036854775808:=by have:=(hUw.vg z8).len;omega
    have hC:=nK N (AQ (c7 n x) i s) T false false Am (by have:=Al.len;omega);have q6:AQ (c7 n x) i s≠T->i≠i0:=λh e=>h (by rw[e,Eb])
    have yn:∀j,AQ (c7 n x) j (AQ (c7 n x) i s)=AQ (c7 n x) (i+j) s:=λj=>(G0 i j s).symm
    have ef:=YY (f:=c7 n x) i (k-i) s;rw[show i+(k-i)=k by omega]at ef;generalize hU:AQ (c7 n x) i s=U at*;repeat' (first|apply A4;omega|refine VE ?_ (λ_=>rfl) (λv hv=>?_);omega|apply AE)<;>conv=>whnf
    obtain rfl:U=v:=ga (o5.symm.trans hv);repeat' (first|apply AG<;>intro hc<;>try omega|apply AR;omega|refine AD (hC) ?_)<;>conv=>whnf
    ·have:=q6 (λe=>hc (by rw[e,X1]))
     exact BF [] (jh (i+1) O' O')
    ·have hUT:U=T:=VS hc
     refine ZN O' ?_;conv=>whnf
     skip
     refine ZN O' ?_;conv=>whnf
     rw[Da,db];refine H3 (λ_=>rfl) O' ?_;rw[ef,zT (by rw[FZ];omega)];conv=>whnf
     refine H3 (λ_=>rfl) H' ?_;rw[<-ag,ef,zT (by rw[va,FZ];omega)];conv=>whnf
     have Er:0<k-i:=O'
     have ep:AQ (c7 n x) (k-i) U=U:=by rw[yn,show i+(k-i)=k by omega,hT,hUT]
     have hnd:(A6 (c7 n x) (k-i) U).Nodup:=by rw[<-ef];exact hk.nd.sublist (xe _ _)
     have lg:∀t∈A6 (c7 n x) (k-i) U,CK box t:=λt ht=>hk.bx t (by rw[<-ef]at ht;exact pf ht)
     have yu:=pH (g:=bj n x) Er ep hnd lg;have bu:=λt=>Uv (f:=c7 n x) (g:=bj n x) (k-i) U t
     have Mg:=yK N (A6 (c7 n x) (k-i) U) ((A6 (c7 n x) (k-i) U).map (bj n x)) false true true (by rw[FZ];exact Er) (by rw[va]) (by rw[FZ];omega) (λt ht=>by have:=((k8 t (lg t ht)).vg z8).len;omega);generalize fb:OX (A6 (c7 n x) (k-i) U,(A6 (c7 n x) (k-i) U).map (bj n x))=c at*;(repeat' (refine AD (Mg) ?_<;>conv=>whnf))
     refine⟨rfl,?_⟩;conv=>whnf
     refine⟨_,?_,hK k (some c) hk (.new i c _ O' (by rw[hT,hU,hUT]) yu λt=>?_)⟩
     ·exact⟨rfl,rfl,rfl,rfl,rfl,trivial⟩
     ·rw[bu t]
      constructor
      ·rintro⟨j,hj,rfl⟩
       exact⟨i+j,O',O',yn j⟩
      ·rintro⟨j,j1,j2,rfl⟩
       refine⟨j-i,O',?_⟩;rw[yn,show i+(j-i)=j by omega]
 ·refine⟨rfl,?_⟩
  (conv=>whnf)
  refine⟨_,?_,hK k none hk (.out (by rw[hT];exactλh=>by rw[(U1 Ak).2 h]at hf;cases hf))⟩;exact⟨rfl,rfl,rfl,rfl,rfl,trivial⟩
end Go.e9

namespace Go.e9
open F
variable {L:Lib} {kB:List Int->ByteArray}
theorem Zt:∀{box:List Int}{a:Int},(∀b∈box,0<=b)->0<=a->a<=4096->JN box a=false->a*(BX box:Int)<=4096
 |[],a,_,_,h,_=>by simp only[BX];omega
 |b::box,a,hb,h0,_,h=>by
  simp only[JN]at h;split at h
  ·cases h
  ·rename_i h1
   have jn:=hb b ta;have:=Zt (a:=a*(2*b+1)) (λx hx=>hb x (Oa _ hx)) (Qg h0 O') O' h
   simp only[BX];rw[fc,Int.toNat_of_nonneg O',<-Int.mul_assoc];exact this
theorem ZT.of{n:Nt}{x:Int}{box:List Int}(h:JC n x box=0):ZT n x box:=by
 unfold JC at h;split at h
 ·rename_i h1
  split at h
  ·rename_i h2
   split at h
   ·rename_i h3
    split at h
    ·rename_i h4
     split at h
     ·rename_i h5
      split at h
      ·cases h
      ·rename_i h6
       have hb:∀b∈box,0<=b:=λb hb=>of_decide_eq_true (Kb.1 h3 b hb)
       have:=Zt (a:=1) hb O' O' (Bool.not_eq_true _▸h6)
       exact⟨h1,h4,h2,h5,hb,O'⟩
     ·cases h
    ·cases h
   ·cases h
  ·cases h
 ·cases h
theorem CX.ints{s:List Int}{K:v_->Prop}(h:s.length<=1000000)(hk:K (s.map AZ)):CX (s.map AZ) 1 8 K :=
 ⟨λe he=>by
  obtain⟨v,_,rfl⟩:=nb.1 he;exact⟨rfl,by simp[RF]⟩,by rw[va];simp only[E7];omega,by rw[va];omega,hk⟩
structure VI(L:Lib):Prop where
 fo:L.fo 434=some 2
 num:L.num 435=xi
 cmp:∀(c d:List (List Int)×List Int)(s t:List Int),c.1[0]?=some s->d.1[0]?=some t->s.length<=64->t.length<=64->L.cmp 435 [.agg (EC c),.agg (EC d)]=some (.int .i64 (B6 s t))
theorem C7.pz(Z:VI L){l:List (List (List Int)×List Int)}{len:Nat}{K:v_->Prop}(hl:len=l.length)(hb:l.length<=1000000)(hh:∀c∈l,∃s,c.1[0]?=some s/\s.length<=64)
  (hd:∀(i j:Nat)(c d:List (List Int)×List Int)(s t:List Int),l[i]?=some c->l[j]?=some d->c.1[0]?=some s->d.1[0]?=some t->s=t->i=j)
  (h:∀l':List (List (List Int)×List Int),l'.Perm l->(∀(i j:Nat)(c d:List (List Int)×List Int),l'[i]?=some c->l'[j]?=some d->i<j->∀s t,c.1[0]?=some s->d.1[0]?=some t->B6 s t<0)->K (l'.map EC)):C7 L 435 (l.map EC) len K:=by
 have rh:∀c∈l,c.1[0]?=some (c.1.head?.getD []):=λc hc=>by
  obtain⟨s,hs,_⟩:=hh c hc;rw[<-zc]at hs;rw[<-zc,hs];rfl
 let le:=λc d:List (List Int)×List Int=>decide (B6 (c.1.head?.getD []) (d.1.head?.getD [])<=0)
 have hp:=List.mergeSort_perm l le;have tr:∀a b c,le a b=true->le b c=true->le a c=true:=λa b c h1 h2=>by
  have h1:=of_decide_eq_true h1;have h2:=of_decide_eq_true h2;refine decide_eq_true ?_;rcases Cd h1 with e1|e1
  ·rcases Cd h2 with e2|e2
   ·have:=aB e1 e2;omega
   ·rw[<-VS e2];exact h1
  ·rw[VS e1];exact h2
 have Bo:∀a b,(le a b||le b a)=true:=λa b=>by
  have:=VR (a.1.head?.getD []) (b.1.head?.getD [])
  rw[Bool.or_eq_true];rcases Int.le_total (B6 (a.1.head?.getD []) (b.1.head?.getD [])) 0 with e|e
  ·exact .inl (decide_eq_true e)
  ·exact .inr (decide_eq_true O')
 have hs:=List.pairwise_mergeSort tr Bo l;have hnd:l.Pairwise λc d=>c.1[0]? ≠ d.1[0]? := by
  rw[Jb];intro i j hi hj jq e;obtain⟨s,h1,_⟩:=hh _ (de hi);have:=hd i j _ _ s s (zE hi) (zE hj) h1 (e▸h1) rfl
  omega
 have uc:(l.mergeSort le).Pairwise λc d=>c.1[0]? ≠ d.1[0]? := (hp.pairwise_iff (λh=>h.symm)).2 hnd
 have k7:∀(i j:Nat)(c d:List (List Int)×List Int),(l.mergeSort le)[i]?=some c->(l.mergeSort le)[j]?=some d->i<j->∀s t,c.1[0]?=some s->d.1[0]?=some t->B6 s t<0:=λi j c d h1 h2 jq s t h3 h4=>by
  obtain⟨i1,rfl⟩:=zS h1;obtain⟨j1,rfl⟩:=zS h2;have e1:=of_decide_eq_true (Jb.1 hs i j i1 j1 jq);have e2:=Jb.1 uc i j i1 j1 jq;rw[zc,zc,h3,h4]at e1;simp only[Qf]at e1;rw[h3,h4]at e2;rcases Cd e1 with e|e
  ·exact e
  ·exact absurd (congrArg some (VS e)) e2
 refine⟨by rw[va];exact hl,O',_,⟨hp.map EC,?_,λi j x y hx hy=>?_⟩,h _ hp k7⟩
 ·refine L2 (λc=>?_) l
  have:=VQ c
  exact this
 ·rw[Fa,Option.map_eq_some_iff]at hx hy
  obtain⟨c,hc,rfl⟩:=hx;obtain⟨d,Hb,rfl⟩:=hy;obtain⟨s,s1,s2⟩:=hh c (hp.mem_iff.1 (zM hc));obtain⟨t,t1,t2⟩:=hh d (hp.mem_iff.1 (zM Hb));refine⟨_,Z.cmp c d s t s1 t1 s2 t2,λpd=>?_,λjq=>k7 i j c d hc Hb jq s t s1 t1⟩;rcases Nat.lt_trichotomy i j with h1|h1|h1
  ·exact h1
  ·subst h1
   rw[hc]at Hb;obtain rfl:=ga Hb;rw[s1]at t1;obtain rfl:=ga t1;rw[X1]at pd;omega
  ·have:=k7 j i d c Hb hc h1 t s t1 s1
   rw[VR]at this;omega
theorem LY.mem{f:List Int->List Int}{g:List Int->Int}{box:List Int}{seen:List (List Int×Int)}{s:List Int}{k:Nat}{r:Option (List (List Int)×List Int)}(hs:CK box s)(hk:MK f box seen s k)(hr:LY f g box seen s k r)(w:Int):s∈D5 (FH f seen s w k):=by
 rcases k with _|k
 ·cases hr with
  |out h=>exact absurd hs h
  |old h=>exact(J5 f).2 (.inr h)
  |new i c u hi=>exact absurd hi O'
 ·exact(J5 f).2 (.inl (FC.2 ⟨0,O',rfl⟩))
attribute [local irreducible] AA AF AX AC B4 AU A7 A8 BV BI B0 DS BG A1 BU CB AB A2 AH pw CG B3 CR DK C2 CO CJ BL CY C3 C4 CX C7
theorem Aix(I:a8 L)(J:k9 L)(N:s9 L){n:Nt}{x:Int}{box:List Int}(h:JC n x box≠0)(q:Bool)(hb:box.length<9223372036854775808):Ev L 433 [.agg (B2 n),.int .i64 x,.sl q (box.map AZ)] (.j5 [.sl false [],.int .i64 (JC n x box)]):=by
 refine Ev.x N.K8 rfl rfl ?_;have hC:=mT I J N n x box true hb;have hC':=mT I J N n x box q hb;repeat' (first|apply AG<;>intro hc<;>try omega|apply AE|refine AD (hC') ?_)<;>conv=>whnf
 exact AW rfl (by simp[AY,BK,DR])
theorem yD(I:a8 L)(J:k9 L)(N:s9 L)(Y:KT L kB)(Z:VI L){n:Nt}{x:Int}{box:List Int}(h:JC n x box=0)(q:Bool) :
  ∃v,Ev L 433 [.agg (B2 n),.int .i64 x,.sl q (box.map AZ)] v/\∃l,LT (c7 n x) (bj n x) box l/\v = .j5 [.sl false (l.map EC),.int .i64 0]:=by
 have hX:=ZT.of h;obtain⟨g1,g2,g3,g4,g5,g6⟩:=(C1 n).1 hX.er;have lf:=hX.len;have hC:=mT I J N n x box q O';rw[h]at hC;obtain⟨b1,b2⟩:=oI hX.nn;have Ol:∀b∈box,b<=8388607:=λb h=>(YG (of_decide_eq_true (Kb.1 hX.wd b h))).2
 refine Ev.xE N.K8 rfl rfl ?_;repeat' (first|apply AG<;>intro hc<;>try omega|apply AP|apply AE|refine AD (hC) ?_)<;>conv=>whnf
 refine FJ (enc:=AZ) 0 box.length rfl rfl O' ?_;conv=>whnf
 (repeat' (apply AP<;>conv=>whnf))
 refine EE (λi _=>box.length-i) (λ(i:Nat)(o:List Int)=>i<=box.length/\o.length=(box.map λv=>-v).length/\o.take i=(box.map λv=>-v).take i) (λi _=>[(35,.int .i64 i)]) (λ_ o=>[(32,32,.rw 1 (o.map AZ))]) 0 (Ia box.length 0) ⟨O',Z',rfl⟩ ?_;intro i o ⟨p1,p2,p3⟩ ih;by_cases hi:i<box.length
 ·obtain⟨b,hb⟩:=N' box i hi
  have jn:=hX.nn b (zM hb);have qe:=Ol b (zM hb);have mn:o.length=box.length:=by rw[p2,va]
  obtain⟨f1,f2⟩:=gD p2 p3 (v := -b) (by rw[Fa,hb];rfl);repeat' (first|apply AG<;>intro hc<;>try omega|apply A4;omega|apply B4.neg;omega|refine A5 V' ?_ rfl ?_;omega|apply AE)<;>conv=>whnf
  refine H4 (enc:=AZ) (-b) rfl (λ_=>rfl) O' ?_;conv=>whnf
  repeat' (first|apply AR;omega|fail)<;>conv=>whnf
  exact BB [] E' (ih (i+1) _ O' ⟨O',f1,f2⟩)
 have ei:=gC p2 p3 H';subst ei;clear ih p2 p3;repeat' (first|apply AG<;>intro hc<;>try omega|apply AE)<;>conv=>whnf
 refine Aej (λk _ _ _ _=>BX box-k) (λ(k:Nat)(st:List Int)(more:Bool)(seen:List (List Int×Int))(l:List (List (List Int)×List Int))=>IQ (c7 n x) (bj n x) box seen l k/\st.length=box.length/\l.length<=k/\k<=BX box/\(∀t,CK box t->B8 box t<k->t∈D5 seen)/\(more=true->CK box st/\B8 box st=k)/\(more=false->k=BX box)) (λ_ _ more _ l=>[(14,.bool more),(13,.row 13 0 2 0 l.length)]) (λk st _ seen l=>[(960028,960028,.rw 2 (MQ kB seen)),(9,9,.bx (xQ n x q box k)),(32,32,.rw 1 (st.map AZ)),(13,13,.rw 2 (l.map EC))]) [] [] 0 (box.map λv=>-v) true [] [] E' ⟨IQ.start,Z',Z',O',λt _ h=>absurd h O',λ_=>⟨b1,b2⟩,λh=>by cases h⟩ ?_;intro k st more seen l ⟨p1,rn,p3,p4,p5,p6,p7⟩ ih;have Ir:=hX.Bo;cases more with
 |true=>
  obtain⟨ig,Hi⟩:=p6 rfl;have k7:=JS ig;clear p6 p7;(repeat' (apply AE<;>conv=>whnf))
  refine Afl rfl rn.symm ?_;conv=>whnf
  refine CX.ints O' ?_;conv=>whnf
  skip
  refine cX [3,960028,9,32,13,51] (pF n x q box st (l.map EC) (MQ kB seen) k) ⟨rfl,rfl,rfl,rfl,rfl,trivial⟩ rfl (Agv I J N Y hX q st (l.map EC) ig p1.bx p1.num p1.nd O' _ (λkk r hk hr=>?_));have hF:=p1.walk hk hr;have hS:=LY.mem ig hk hr ((k:Int)+1);have Hs:∀t,CK box t->B8 box t<k+1->t∈D5 (FH (c7 n x) seen st ((k:Int)+1) kk):=λt ht po=>by
   by_cases e:B8 box t<k
   ·exact(J5 _).2 (.inr (p5 t ht e))
   ·rw[aY ht ig O']
    exact hS
  have zu:((k:Int)+1)=((k+1:Nat):Int):=O'
  rw[zu]at hF Hs⊢;generalize FH (c7 n x) seen st ((k+1:Nat):Int) kk=tj at*;clear hS p5 p1 hk;cases r with
  |none=>
   simp only[Option.toList_none,Me]at hF;conv=>whnf
   repeat' (first|apply AG<;>intro hc<;>try omega|fail)<;>conv=>whnf
   refine I7 1000 N.MY rfl rfl ?_;repeat' (first|apply BS;omega|apply AE)<;>conv=>whnf
   refine EA (λj=>j) (λ(j:Nat)=>j<=box.length/\∀(i:Nat)(u v:Int),j<=i->st[i]?=some u->box[i]?=some v->v<=u) (λj=>[(5,.int .i64 ((j:Int)-1))]) (λj=>[(32,32,.rw 1 ((st.take j++(box.drop j).map λv=>-v).map AZ))]) [] [] box.length (by rw[Jf,zT O',Hg,Me,<-rn];exact E') ⟨O',λi u v h1 h2 h3=>by have:=(zS h2).1;omega⟩ ?_;intro j ⟨j1,j2⟩ jh;rcases j with _|j
   focus
    have nu:JU box st=none:=iH rn λi u v h1 h2=>j2 i u v O' h1 h2
    rw[dd,Hf,ya];repeat' (first|apply AG<;>intro hc<;>try omega|apply AE)<;>conv=>whnf
    refine⟨rfl,_,rfl,?_⟩;conv=>whnf
    skip
    exact BB [] E' (ih (k+1) (box.map λv=>-v) false tj l O' ⟨hF,by rw[va],by(try rw[Na,La]);omega,O',Hs,λh=>(by cases h),λ_=>by have:=iI hX.nn ig nu;omega⟩)
   obtain⟨u,hu⟩:=N' st j;obtain⟨v,hv⟩:=N' box j;have hv0:=hX.nn v (zM hv);have Dq:=Ol v (zM hv);have huv:=aZ ig hu hv;have e1:((j+1:Nat):Int)-1=(j:Int):=O'
   have dp:(st.take j).length=j:=by rw[ja];omega
   have ho:(st.take (j+1)++(box.drop (j+1)).map λv=>-v)[0+((j:Int)).toNat]?=some u:=by rw[db,Da,He J',xf O',hu]
   have bz:∀y:Int,(st.take (j+1)++(box.drop (j+1)).map λv=>-v).set j y=st.take j++y::(box.drop (j+1)).map λv=>-v:=λy=>by
    rw[Bd,hu,Kd,re,vd _ _ O',dp,pe];rfl
   have mn:(st.take (j+1)++(box.drop (j+1)).map λv=>-v).length=box.length:=by rw[Na,va,ja,Kf];omega
   rw[e1];generalize ho0:st.take (j+1)++(box.drop (j+1)).map (λv=>-v)=o at*;repeat' (first|apply AG<;>intro hc<;>try omega|apply A4;omega|apply AE)<;>conv=>whnf
   refine F6 (enc:=AZ) ho rfl ?_;conv=>whnf
   repeat' (first|apply AG<;>intro hc<;>try omega|apply A4;omega|apply B4.neg;omega|refine A5 V' ?_ rfl ?_;omega)<;>conv=>whnf
   focus
    have gk:=pT (box:=box) (s:=st) (i:=j) rn hu hv O' λi x y h1 h2 h3=>j2 i x y O' h2 h3
    refine F6 (enc:=AZ) ho rfl ?_;conv=>whnf
    repeat' (first|apply A4;omega|apply AR;omega)<;>conv=>whnf
    refine H4 (enc:=AZ) (u+1) rfl (λ_=>rfl) O' ?_;rw[bz];conv=>whnf
    skip
    refine⟨rfl,_,rfl,?_⟩;conv=>whnf
    skip
    obtain⟨n1,n2⟩:=pU hX.nn ig gk;exact BB [] E' (ih (k+1) _ true tj l O' ⟨hF,Q7 n1,by(try rw[Na,La]);omega,O',Hs,λ_=>⟨n1,O'⟩,λh=>(by cases h)⟩)
   refine H4 (enc:=AZ) (-v) rfl (λ_=>rfl) O' ?_;rw[bz,show -v::(box.drop (j+1)).map (λv=>-v)=(box.drop j).map λv=>-v by rw[DC hv];rfl];conv=>whnf
   repeat' (first|apply BS;omega|fail)<;>conv=>whnf
   exact BF [] (jh j O' ⟨O',λi x y h1 h2 h3=>by
    by_cases e:i=j
    ·subst e
     rw[hu]at h2;rw[hv]at h3;obtain rfl:=ga h2;obtain rfl:=ga h3;omega
    ·exact j2 i x y O' h2 h3⟩)
  |some c=>
   simp only[Kd]at hF;conv=>whnf
   repeat' (first|apply AG<;>intro hc<;>try omega|apply CT)<;>conv=>whnf
   refine DH (enc:=EC) c rfl rfl rfl O' O' ?_;conv=>whnf
   skip
   refine I7 1000 N.MY rfl rfl ?_;repeat' (first|apply BS;omega|apply AE)<;>conv=>whnf
   refine EA (λj=>j) (λ(j:Nat)=>j<=box.length/\∀(i:Nat)(u v:Int),j<=i->st[i]?=some u->box[i]?=some v->v<=u) (λj=>[(5,.int .i64 ((j:Int)-1))]) (λj=>[(32,32,.rw 1 ((st.take j++(box.drop j).map λv=>-v).map AZ))]) [] [] box.length (by rw[Jf,zT O',Hg,Me,<-rn];exact E') ⟨O',λi u v h1 h2 h3=>by have:=(zS h2).1;omega⟩ ?_;intro j ⟨j1,j2⟩ jh;rcases j with _|j
   focus
    have nu:JU box st=none:=iH rn λi u v h1 h2=>j2 i u v O' h1 h2
    rw[dd,Hf,ya];repeat' (first|apply AG<;>intro hc<;>try omega|apply AE)<;>conv=>whnf
    refine⟨rfl,_,rfl,?_⟩;conv=>whnf
    skip
    exact BB [(13,65)] E' (ih (k+1) (box.map λv=>-v) false tj (l++[c]) O' ⟨hF,by rw[va],by(try rw[Na,La]);omega,O',Hs,λh=>(by cases h),λ_=>by have:=iI hX.nn ig nu;omega⟩)
   obtain⟨u,hu⟩:=N' st j;obtain⟨v,hv⟩:=N' box j;have hv0:=hX.nn v (zM hv);have Dq:=Ol v (zM hv);have huv:=aZ ig hu hv;have e1:((j+1:Nat):Int)-1=(j:Int):=O'
   have dp:(st.take j).length=j:=by rw[ja];omega
   have ho:(st.take (j+1)++(box.drop (j+1)).map λv=>-v)[0+((j:Int)).toNat]?=some u:=by rw[db,Da,He J',xf O',hu]
   have bz:∀y:Int,(st.take (j+1)++(box.drop (j+1)).map λv=>-v).set j y=st.take j++y::(box.drop (j+1)).map λv=>-v:=λy=>by
    rw[Bd,hu,Kd,re,vd _ _ O',dp,pe];rfl
   have mn:(st.take (j+1)++(box.drop (j+1)).map λv=>-v).length=box.length:=by rw[Na,va,ja,Kf];omega
   rw[e1];generalize ho0:st.take (j+1)++(box.drop (j+1)).map (λv=>-v)=o at*;repeat' (first|apply AG<;>intro hc<;>try omega|apply A4;omega|apply AE)<;>conv=>whnf
   refine F6 (enc:=AZ) ho rfl ?_;conv=>whnf
   repeat' (first|apply AG<;>intro hc<;>try omega|apply A4;omega|apply B4.neg;omega|refine A5 V' ?_ rfl ?_;omega)<;>conv=>whnf
   focus
    have gk:=pT (box:=box) (s:=st) (i:=j) rn hu hv O' λi x y h1 h2 h3=>j2 i x y O' h2 h3
    refine F6 (enc:=AZ) ho rfl ?_;conv=>whnf
    repeat' (first|apply A4;omega|apply AR;omega)<;>conv=>whnf
    refine H4 (enc:=AZ) (u+1) rfl (λ_=>rfl) O' ?_;rw[bz];conv=>whnf
    skip
    refine⟨rfl,_,rfl,?_⟩;conv=>whnf
    skip
    obtain⟨n1,n2⟩:=pU hX.nn ig gk;exact BB [(13,65)] E' (ih (k+1) _ true tj (l++[c]) O' ⟨hF,Q7 n1,by(try rw[Na,La]);omega,O',Hs,λ_=>⟨n1,O'⟩,λh=>(by cases h)⟩)
   refine H4 (enc:=AZ) (-v) rfl (λ_=>rfl) O' ?_;rw[bz,show -v::(box.drop (j+1)).map (λv=>-v)=(box.drop j).map λv=>-v by rw[DC hv];rfl];conv=>whnf
   repeat' (first|apply BS;omega|fail)<;>conv=>whnf
   exact BF [] (jh j O' ⟨O',λi x y h1 h2 h3=>by
    by_cases e:i=j
    ·subst e
     rw[hu]at h2;rw[hv]at h3;obtain rfl:=ga h2;obtain rfl:=ga h3;omega
    ·exact j2 i x y O' h2 h3⟩)
 |false=>
  have hk:=p7 rfl;have hh:∀c∈l,∃s,c.1[0]?=some s/\s.length<=64:=λc hc=>by
   obtain⟨⟨s,m,h1⟩,_⟩:=p1.pz c hc;refine⟨s,h1.head,?_⟩;have:=Q7 (h1.box s (FC.2 ⟨0,h1.pos,rfl⟩))
   omega
  (repeat' (apply AE<;>conv=>whnf))
  refine A4 ⟨rfl,Z.num.symm,Z.fo⟩ ?_;conv=>whnf
  refine C7.pz Z rfl O' hh (λi j c d s t h1 h2 h3 h4 h5=>p1.As h1 h2 h3 h4 h5) (λl' hp ho=>?_);have km:=p1.full (λt ht=>p5 t ht (by rw[hk];exact JS ht)) hp ho;have ub:l.length=l'.length:=hp.length_eq.symm;conv=>whnf
  skip
  rw[ub];refine⟨_,?_,l',km,rfl⟩;conv=>whnf
  refine C6 (λ_=>rfl) rfl rfl ?_;conv=>whnf
  refine AW rfl ?_;simp only[AY,BK,true_and,and_true];exact L2 (λc=>VQ c) l'
end Go.e9

namespace Go.e9
open F
variable {L:Lib} {kB:List Int->ByteArray}
def MB(f:List Int->List Int)(s:List Int):Nat->List (List Int×Int)
 |0=>[]
 |i+1=>(AQ f i s,(i:Int))::MB f s i
theorem rM{f:List Int->List Int}{s t:List Int}:∀{i:Nat},t∈D5 (MB f s i)↔t∈A6 f i s
 |0=>by simp[MB,A6]
 |i+1=>by
  simp only[MB,D5,Gb,Jc,O8,Ba,Ha];have:=rM (f:=f) (s:=s) (t:=t) (i:=i)
  simp only[D5]at this;rw[this,Or.comm];simp
theorem Xp{f:List Int->List Int}{s t:List Int}{v:Int}:∀{i:Nat},(t,v)∈MB f s i->∃j:Nat,j<i/\v=j/\t=AQ f j s
 |i+1,h=>by
  simp only[MB,Jc,zf]at h;rcases h with⟨h1,h2⟩|h
  ·exact⟨i,O',h2,h1⟩
  ·obtain⟨j,h1,h2⟩:=Xp h
   exact⟨j,O',h2⟩
theorem Xo{f:List Int->List Int}{s:List Int}:∀i,(MB f s i).length=i
 |0=>rfl
 |i+1=>by simp only[MB,Ic,Xo i]
set_option maxRecDepth 8000
attribute [local irreducible] AA AF AX AC B4 AU A7 A8 BV BI B0 DS BG A1 BU CB AB A2 AH pw CG B3 CR DK C2 CO CJ BL CY C3 C4 CX C7
def QR(n:Nt)(x:Int)(s:List Int)(v:AV):Prop :=
 (∃i j:Nat,i<j/\j<=4096/\(A6 (c7 n x) j s).Nodup/\AQ (c7 n x) j s=AQ (c7 n x) i s/\v = .j5 [.agg (EC (OX (A6 (c7 n x) (j-i) (AQ (c7 n x) i s),(A6 (c7 n x) (j-i) (AQ (c7 n x) i s)).map (bj n x)))),.int .i64 i,.int .i64 0]) \/
 ((A6 (c7 n x) 4097 s).Nodup/\v = .j5 [.agg [.sl false [],.sl false []],.int .i64 0,.int .i64 16])
theorem AiB(I:a8 L)(J:k9 L)(N:s9 L)(Y:KT L kB){n:Nt}{x:Int}{s:List Int}(z8:DN n=true)(hx:FT n.d x)(hs:EG n s)(q:Bool) :
  ∃v,Ev L 436 [.agg (B2 n),.sl q (s.map AZ),.int .i64 x] v/\QR n x s v:=by
 obtain⟨g1,g2,g3,g4,g5,g6⟩:=(C1 n).1 z8;have me:=(hs.vg z8).len;have hW:=λk=>EG.it z8 hx k hs
 refine Ev.xE N.MU rfl rfl ?_;(repeat' (apply AE<;>conv=>whnf))
 refine CX.ints O' ?_;conv=>whnf
 skip
 refine DG (λk=>4098-k) (λ(k:Nat)=>k<=4097/\(A6 (c7 n x) k s).Nodup) (λk=>[(25,.int .i64 k),(12,.sl false ((AQ (c7 n x) k s).map AZ)),(10,.row 10 0 1 0 k),(11,.row 11 0 1 0 k)]) (λk=>[(10,10,.rw 1 ((A6 (c7 n x) k s).map (IG false))),(11,11,.rw 1 (((A6 (c7 n x) k s).map (bj n x)).map AZ)),(960021,960021,.rw 2 (MQ kB (MB (c7 n x) s k)))]) 0 ⟨O',ng⟩ ?_;intro k ⟨hk1,hk⟩ ih;have zu:=hW k;have wg:∀t∈D5 (MB (c7 n x) s k),HB t:=λt ht=>by
  obtain⟨j,_,rfl⟩:=FC.1 (rM.1 ht);exact(hW j).vg z8
 have x8:=Xo (f:=c7 n x) (s:=s) k;have mn:=FZ (f:=c7 n x) k s;have zq:=O8 (f:=c7 n x) k s;have ik:=Q8 (f:=c7 n x) k s;have ud:MB (c7 n x) s (k+1)=(AQ (c7 n x) k s,(k:Int))::MB (c7 n x) s k:=rfl;generalize hT:AQ (c7 n x) k s=T at*;have Al:=zu.vg z8;by_cases hk4:k<4097
 ·repeat' (first|apply AG<;>intro hc<;>try omega|apply AE|refine AD (yJ I J z8 hx zu _) ?_|refine AD (yR Y Al _) ?_)<;>conv=>whnf
  refine C3.seen Y Al wg O' ?_;cases nf:H7 (MB (c7 n x) s k) T with
  |none=>
   have ma:=gW.1 nf;conv=>whnf
   skip
   refine C4.seen Y Al wg O' ma ⟨O',O'⟩ ?_;conv=>whnf
   (repeat' (apply CT<;>conv=>whnf))
   refine DH (enc:=IG false) T rfl mn.symm rfl O' O' ?_;rw[<-zq,FZ];conv=>whnf
   (repeat' (apply CT<;>conv=>whnf))
   refine DH (enc:=AZ) (bj n x T) rfl (by rw[va];exact mn.symm) rfl H' H' ?_;rw[show(A6 (c7 n x) k s).map (bj n x)++[bj n x T]=(A6 (c7 n x) (k+1) s).map (bj n x)by rw[zq,Gf];rfl,va,FZ];conv=>whnf
   repeat' (first|apply AR;omega|fail)<;>conv=>whnf
   have jt:=ih (k+1) O' ⟨O',by
    rw[zq,ze];exact⟨hk,Z',λa ha b j9 e=>ma (rM.2 (by rw[Ha]at j9;rw[<-j9,<-e];exact ha))⟩⟩
   rw[ik,ud]at jt;exact BB [(10,64),(11,68)] E' jt
  |some v=>
   obtain⟨i,hi,rfl,Eb⟩:=Xp (bD nf);rw[Qf];have ef:=YY (f:=c7 n x) i (k-i) s;rw[show i+(k-i)=k by omega]at ef;have Er:0<k-i:=O'
   have hIb:∀t∈A6 (c7 n x) (k-i) (AQ (c7 n x) i s),t.length<=64:=λt ht=>by
    obtain⟨j,_,rfl⟩:=FC.1 ht;rw[<-G0];exact((hW (i+j)).vg z8).len
   have Mg:=yK N (A6 (c7 n x) (k-i) (AQ (c7 n x) i s)) ((A6 (c7 n x) (k-i) (AQ (c7 n x) i s)).map (bj n x)) false true true (by rw[FZ];exact Er) (by rw[va]) (by rw[FZ];omega) (λt ht=>by have:=hIb t ht;omega);have aq:QR n x s (.j5 [.agg (EC (OX (A6 (c7 n x) (k-i) (AQ (c7 n x) i s),(A6 (c7 n x) (k-i) (AQ (c7 n x) i s)).map (bj n x)))),.int .i64 i,.int .i64 0]):= .inl ⟨i,k,hi,O',hk,by rw[hT,Eb],rfl⟩;generalize fb:OX (A6 (c7 n x) (k-i) (AQ (c7 n x) i s),(A6 (c7 n x) (k-i) (AQ (c7 n x) i s)).map (bj n x))=c at*;conv=>whnf
   skip
   refine ZN O' ?_;conv=>whnf
   skip
   refine ZN O' ?_;conv=>whnf
   rw[Da,db];refine H3 (λ_=>rfl) O' ?_;rw[ef,zT (by rw[FZ];omega)];conv=>whnf
   refine H3 (λ_=>rfl) H' ?_;rw[<-ag,ef,zT (by rw[va,FZ];omega)];conv=>whnf
   (repeat' (refine AD (Mg) ?_<;>conv=>whnf))
   refine⟨_,AW rfl ?_,aq⟩;have:=VQ c
   simp only[AY,BK]at this⊢;simpa using this
 ·have e:k=4097:=O'
  subst e;repeat' (first|apply AG<;>intro hc<;>try omega|apply AE)<;>conv=>whnf
  exact⟨_,AW rfl (by simp[AY,BK,DR]),.inr ⟨hk,rfl⟩⟩
theorem AiC(I:a8 L)(J:k9 L)(N:s9 L){n:Nt}{x:Int}{s:List Int}(hs:s.length<=1000000)(he:(IP n s x).2.2.2≠0)(q:Bool) :
  Ev L 436 [.agg (B2 n),.sl q (s.map AZ),.int .i64 x] (.j5 [.agg [.sl false [],.sl false []],.int .i64 0,.int .i64 (IP n s x).2.2.2]):=by
 refine Ev.x N.MU rfl rfl ?_;have hS:=λq=>yX n I J s q x O'
 (repeat' (apply AE<;>conv=>whnf))
 refine CX.ints O' ?_;conv=>whnf
 skip
 refine I5 ?_;repeat' (first|apply AG<;>intro hc<;>try omega|apply AE|refine AD (hS _) ?_)<;>conv=>whnf
 exact AW rfl (by simp[AY,BK,DR])
end Go.e9

namespace Go.e9
open F
set_option maxRecDepth 8000
variable {L:Lib} {kB:List Int->ByteArray}
section
variable {f:List Int->List Int} {g:List Int->Int} {box:List Int} {l:List (List (List Int) × List Int)}
theorem G9.len{B:List Int->Prop}{c:List (List Int)×List Int}{s:List Int}{k:Nat}(h:G9 f g B c s k):c.1.length=k/\c.2.length=k:=by
 rw[h.st,h.out,va];exact⟨FZ k s,FZ k s⟩
theorem LT.of(h1:∀c∈l,∃s k,G9 f g (CK box) c s k)(h2:∀s,CK box s->(∃c∈l,s∈c.1)\/∀n,0<n->AQ f n s≠s)(h3:l.Pairwise λc d=>∀s t,c.1[0]?=some s->d.1[0]?=some t->B6 s t<0):LT f g box l:=by
 refine⟨h1,λc s k hc=>?_,h3⟩;have hs:s∈A6 f k s:=FC.2 ⟨0,hc.pos,rfl⟩;rcases h2 s (hc.box s hs)with⟨d,hd,hm⟩|h
 ·obtain⟨u,m,hu⟩:=h1 d hd
  rw[(hc.uniq hu (by rw[hc.st];exact hs) hm).1];exact hd
 ·exact absurd hc.Bi (h k hc.pos)
end
def Q9:Nt:=⟨⟨6,0,1,1⟩,⟨6,0,1,1⟩,1,true,[⟨true,[(1,-1)]⟩],true,[2],2⟩
def WD:List (List (List Int)×List Int):=[([[-1],[1]],[1,-1]),([[0]],[0])]
theorem Alg:LT (c7 Q9 0) (bj Q9 0) [1] WD:=by
 have a1:G9 (c7 Q9 0) (bj Q9 0) (CK [1]) ([[-1],[1]],[1,-1]) [-1] 2:=by
  refine⟨O',by decide +kernel,by decide +kernel,by decide +kernel,by decide +kernel,?_,by decide +kernel⟩;rw[show A6 (c7 Q9 0) 2 [-1]=[[-1],[1]]by decide +kernel];simp[CK]
 have a2:G9 (c7 Q9 0) (bj Q9 0) (CK [1]) ([[0]],[0]) [0] 1:=by
  refine⟨O',by decide +kernel,by decide +kernel,by decide +kernel,by decide +kernel,?_,by decide +kernel⟩;rw[show A6 (c7 Q9 0) 1 [0]=[[0]]by decide +kernel];simp[CK]
 refine LT.of ?_ ?_ ?_
 ·intro c hc
  simp only[WD,Jc,List.not_mem_nil,or_false]at hc;rcases hc with rfl|rfl
  ·exact⟨_,_,a1⟩
  ·exact⟨_,_,a2⟩
 ·intro s hs
  refine .inl ?_;match s,hs with
  |[v],⟨h,_⟩=>
   rcases(O':v = -1\/v=0\/v=1)with rfl|rfl|rfl
   ·exact⟨_,ta,ta⟩
   ·exact⟨_,Oa _ ta,ta⟩
   ·exact⟨_,ta,Oa _ ta⟩
 ·simp[WD]
  decide
attribute [local irreducible] AA AF AX AC B4 AU A7 A8 BV BI B0 DS BG A1 BU CB AB A2 AH pw CG B3 CR DK C2 CO CJ BL CY C3 C4 CX C7
theorem AiV(I:a8 L)(J:k9 L)(N:s9 L)(C:du L)(Y:KT L kB)(Z:VI L):Ev L 437 [] (.bool true):=by
 have jx:JC Q9 0 [1]=0:=by decide +kernel
 obtain⟨v,hv,l,hl,rfl⟩:=yD I J N Y Z jx true;obtain rfl:=hl.uniq Alg;have i0:WD[((0:Int)).toNat]?=some ([[-1],[1]],[1,-1]):=rfl;have i1:WD[((1:Int)).toNat]?=some ([[0]],[0]):=rfl;have i2:([[-1],[1]]:List (List Int))[((0:Int)).toNat]?=some [-1]:=rfl;have jd:WD.length=2:=rfl;have s1:=λq=>fY I [-1] [-1] false q Y' Y'
 have s2:=λq=>fY I [1,-1] [1,-1] false q Y' Y'
 generalize WD=l at*;refine Ev.x C.SZ rfl rfl ?_;(repeat' (apply AE<;>conv=>whnf))
 refine A4 rfl ?_;conv=>whnf
 repeat' (first|apply AG<;>intro hc<;>try omega|apply AP|refine A5 V' ?_ rfl ?_;omega|refine JP rfl ?_|refine ZZ rfl rfl ?_|refine AD (hv) ?_|refine AD (s1 _) ?_|refine AD (s2 _) ?_)<;>conv=>whnf
 all_goals first|exact absurd rfl hc|exact E9 Y'
end Go.e9

namespace Go.e9
open F
set_option maxRecDepth 8000
variable {L:Lib} {kB:List Int->ByteArray}
structure tP(c:List (List Int)×List Int):Prop where
 s:c.1.length<1000000
 o:c.2.length<1000000
 t:∀t∈c.1,t.length<1000000
theorem QR.out{n:Nt}{x:Int}{s:List Int}{v:AV}(z8:DN n=true)(hx:FT n.d x)(hs:EG n s)(h:QR n x s v):∃(z:List (List Int)×List Int) (fr e:Int),v = .j5 [.agg (EC z),.int .i64 fr,.int .i64 e]/\tP z/\(e=0->∃u k,G9 (c7 n x) (bj n x) (EG n) z u k)/\(e≠0->e=16/\z=([],[])):=by
 rcases h with⟨i,j,h1,h2,h3,h4,rfl⟩|⟨_,rfl⟩
 ·have ef:=YY (f:=c7 n x) i (j-i) s
  rw[show i+(j-i)=j by omega]at ef;have hW:=λk=>EG.it z8 hx k hs
  have rf:=pH (f:=c7 n x) (g:=bj n x) (B:=EG n) (p:=j-i) (u:=AQ (c7 n x) i s) O' (by rw[<-G0,show i+(j-i)=j by omega,h4]) (by rw[<-ef];exact h3.sublist (xe _ _)) (λt ht=>by
   obtain⟨m,_,rfl⟩:=FC.1 ht;rw[<-G0];exact hW _)
  have hl:=rf.len;refine⟨_,_,_,rfl,⟨O',O',λt ht=>?_⟩,λ_=>⟨_,_,rf⟩,λh=>absurd rfl h⟩;have:=((rf.box t (by rw[<-rf.st];exact ht)).vg z8).len
  omega
 ·exact⟨([],[]),_,_,rfl,⟨Z',Z',Z'⟩,λh=>(by cases h),λ_=>⟨rfl,rfl⟩⟩
attribute [local irreducible] AA AF AX AC B4 AU A7 A8 BV BI B0 DS BG A1 BU CB AB A2 AH pw CG B3 CR DK C2 CO CJ BL CY C3 C4 CX C7
end Go.e9

namespace Go.e9
open Go.Lib (itoa decDigits itoa_length_le)
open Go.RowKit
def FY(s:List Int):List UInt8:=s.flatMap λv=>itoa v++[32]
def OU(s:List Int):ByteArray:=⟨(FY s).toArray⟩
theorem Alb(s:List Int)(v:Int):FY (s++[v])=FY s++(itoa v++[32]):=by simp[FY]
theorem oR:∀(s:List Int),(∀v∈s,DJ v)->(FY s).length<=22*s.length
 |[],_=>by simp[FY]
 |v::s,h=>by
  have h1:=oR s λx hx=>h x (Oa _ hx)
  have h2:=h v ta;have h3:=itoa_length_le v h2.1 h2.2;simp only[FY,List.flatMap_cons,Na,Ic,List.length_nil]at*;omega
theorem X6{u:Nat}(h:u<10):decDigits u=[UInt8.ofNat (48+u)]:=by rw[decDigits,dif_pos h]
theorem X5{u:Nat}(h:¬u<10):decDigits u=decDigits (u/10)++[UInt8.ofNat (48+u%10)]:=by rw[decDigits,dif_neg h]
theorem Zw{a b:Nat}(ha:a<10)(hb:b<10)(h:UInt8.ofNat (48+a)=UInt8.ofNat (48+b)):a=b:=by
 have:=congrArg UInt8.toNat h
 rw[UInt8.toNat_ofNat',UInt8.toNat_ofNat']at this;omega
theorem Zx{a b:Nat}(ha:a<10)(hb:b<48):UInt8.ofNat (48+a)≠UInt8.ofNat b:=λh=>by
 have:=congrArg UInt8.toNat h
 rw[UInt8.toNat_ofNat',UInt8.toNat_ofNat']at this;omega
theorem wN(u:Nat):0<(decDigits u).length:=by
 by_cases h:u<10
 ·rw[X6 h];simp
 ·rw[X5 h];simp
theorem wL(u:Nat):∀w:Nat,decDigits u=decDigits w->u=w:=by
 induction u using Bf with
 |_ u ih=>
  intro w h;by_cases hu:u<10<;>by_cases hw:w<10
  ·rw[X6 hu,X6 hw]at h
   exact Zw hu hw (Nb h).1
  ·rw[X6 hu,X5 hw]at h
   have h1:=congrArg Dg h;have h2:=wN (w/10);rw[Na,La,La]at h1;omega
  ·rw[X5 hu,X6 hw]at h
   have h1:=congrArg Dg h;have h2:=wN (u/10);rw[Na,La,La]at h1;omega
  ·rw[X5 hu,X5 hw]at h
   obtain⟨h1,h2⟩:=List.append_inj' h Z';have e1:=ih (u/10) O' _ h1;have e2:=Zw (Pa _ O') (Pa _ O') (Nb h2).1;omega
theorem wM(u:Nat):∀x∈decDigits u,∃a,a<10/\x=UInt8.ofNat (48+a):=by
 induction u using Bf with
 |_ u ih=>
  intro x hx;by_cases hu:u<10
  ·rw[X6 hu,Ha]at hx
   exact⟨u,hu,hx⟩
  ·rw[X5 hu]at hx
   rcases Ba.1 hx with h|h
   ·exact ih (u/10) O' x h
   ·exact⟨u%10,Pa _ O',Ha.1 h⟩
theorem Vp(v:Int):∀x∈itoa v,x≠32:=λx hx=>by
 have key:∀u,x∈decDigits u->x≠32:=λu h e=>by
  obtain⟨a,ha,e2⟩:=wM u x h;exact Zx ha (b:=32) O' (e2.symm.trans e)
 unfold itoa at hx;split at hx
 ·rcases Jc.1 hx with h|h
  ·rw[h];decide
  ·exact key _ h
 ·exact key _ hx
theorem Ak7{v w:Int}(h:itoa v=itoa w):v=w:=by
 have key:∀(u:Nat)(l:List UInt8),decDigits u≠45::l:=λu l e=>by
  obtain⟨a,ha,e2⟩:=wM u 45 (by rw[e];exact ta);exact Zx ha (b:=45) O' e2.symm
 unfold itoa at h;split at h<;>split at h
 ·have:=wL _ _ (Nb h).2;omega
 ·exact absurd h.symm (key _ _)
 ·exact absurd h (key _ _)
 ·have:=wL _ _ h;omega
theorem Ans{a b r t:List UInt8}(ha:∀x∈a,x≠32)(hb:∀x∈b,x≠32)(h:a++32::r=b++32::t):a=b/\r=t:=by
 induction a generalizing b with
 |nil=>cases b with
  |nil=>exact⟨rfl,(Nb h).2⟩
  |cons y b=>exact absurd (Nb h).1.symm (hb y ta)
 |cons x a ih=>cases b with
  |nil=>exact absurd (Nb h).1 (ha x ta)
  |cons y b=>
   obtain⟨h1,h2⟩:=Nb h;obtain⟨h3,h4⟩:=ih (λz hz=>ha z (Oa _ hz)) (λz hz=>hb z (Oa _ hz)) h2;exact⟨by rw[h1,h3],h4⟩
theorem gU(v:Int)(s:List Int):FY (v::s)=itoa v++32::FY s:=by simp[FY]
theorem Vr:∀{s t:List Int},FY s=FY t->s=t
 |[],[],_=>rfl
 |[],w::t,h=>by rw[gU]at h;simp[FY]at h
 |v::s,[],h=>by rw[gU]at h;simp[FY]at h
 |v::s,w::t,h=>by
  rw[gU,gU]at h;obtain⟨h1,h2⟩:=Ans (Vp v) (Vp w) h;rw[Ak7 h1,Vr h2]
theorem Ak9{s t:List Int}(h:OU s=OU t):s=t:=by
 refine Vr ?_;have h:(FY s).toArray=(FY t).toArray:=congrArg ByteArray.data h;simpa using h
theorem Ala(s:List Int)(h:HB s):(OU s).size<=100000:=by
 have h1:=oR s h.Jl;have h2:=h.len;show(FY s).toArray.size<=100000;rw[List.size_toArray];omega
open Classical in
noncomputable def aP(f:Nat)(vs:w_):Option AV:=if h:f=432/\∃s,HB s/\∃q,vs=[.sl q (s.map AZ)]then some (.y8 (.string (OU h.2.choose)))else none
theorem xW:∀{s t:List Int},s.map AZ=t.map AZ->s=t
 |[],[],_=>rfl
 |v::s,w::t,h=>by
  simp only[Gb,List.cons.injEq,AV.int.injEq,true_and,and_true]at h;rw[h.1,xW h.2]
theorem Tc{f:Nat}{vs:w_}{r:AV}(h:aP f vs=some r):f=432/\∃s,HB s/\(∃q,vs=[.sl q (s.map AZ)])/\r = .y8 (.string (OU s)):=by
 unfold aP at h;split at h
 ·rename_i hx
  obtain rfl:=ga h;exact⟨hx.1,_,hx.2.choose_spec.1,hx.2.choose_spec.2,rfl⟩
 ·cases h
theorem AjW(q:Bool){s:List Int}(hs:HB s):aP 432 [.sl q (s.map AZ)]=some (.y8 (.string (OU s))):=by
 have hx:(432:Nat)=432/\∃t,HB t/\∃q',[AV.sl q (s.map AZ)]=[.sl q' (t.map AZ)]:=⟨rfl,s,hs,q,rfl⟩;unfold aP;rw[dif_pos hx];obtain⟨_,q',e⟩:=hx.2.choose_spec;exact congrArg (λt=>some (AV.y8 (.string (OU t)))) (xW (AV.sl.inj (Nb e).1).2).symm
open Classical in
noncomputable def aA(L0:Lib)(f:Nat)(vs:w_):Option AV:=if h:f=435/\∃r,Ev L0 f vs r then some h.2.choose else none
theorem AgJ{L0:Lib}{f:Nat}{vs:w_}{r:AV}(h:aA L0 f vs=some r):f=435/\Ev L0 f vs r:=by
 unfold aA at h;split at h
 ·rename_i hx
  obtain rfl:=ga h;exact⟨hx.1,hx.2.choose_spec⟩
 ·cases h
theorem AgI{L0:Lib}{vs:w_}{r:AV}(h:Ev L0 435 vs r):aA L0 435 vs=some r:=by
 have hx:(435:Nat)=435/\∃r,Ev L0 435 vs r:=⟨rfl,r,h⟩;unfold aA;rw[dif_pos hx];exact congrArg some (hx.2.choose_spec.Ah h)
def sC(f:Nat):Option Nat:=if f=434 then some 2 else none
noncomputable def dF(fn:Nat->Option AFn)(num:Nat->Nat):Lib:={ fn:=fn,num:=num,ext:=aP,cmp:=aA { fn:=fn,num:=num },fo:=sC }
theorem Ald{fn:Nat->Option AFn}{num:Nat->Nat}(h:fn 432=none):KT (dF fn num) OU:=⟨h,λq s hs=>AjW q hs,λs t _ _ e=>Ak9 e,Ala⟩
theorem Anv{fn:Nat->Option AFn}{num:Nat->Nat}(N:F.s9 { fn:=fn,num:=num })(h:num 435=F.xi):VI (dF fn num):=by
 refine⟨rfl,h,λc d s t h1 h2 h3 h4=>?_⟩;exact AgI (Aiy N c d s t h1 h2 O' O')
def tV(P:Program)(n:Nat)(I:E0):Prop:=(∀(us:Array Value)(w:World),(callFunc n us).run P w = .ok (.enter n us) w) /\
 ∀(W:World)(xa:Option Addr)(xb xo cap:Nat)(s:List Int),I.ok W->(0<s.length->xa=some ⟨xb,xo,none⟩)->(∀i v,s[i]?=some v->W.cell? ⟨xb,xo+i,none⟩=some (.int .i64 v))->HB s ->
  Calls P n #[.slice xa s.length cap] W λe w'=>e = .returned (.string (OU s))/\Below W.heap.size W w'
theorem Amq{fn:Nat->Option AFn}{num:Nat->Nat}{P:Program}{I:E0}(hP:ProgOK P num { fn:=fn,num:=num })(hI:¬I.D)(hk:tV P (num 432) I)(hs:dQ P (num 434) 2):XN I P num (dF fn num):=by
 refine⟨⟨hP.1,rfl⟩,λf vs r _ h us w=>?_,λf vs r _ h hc S w us hw hl ha=>?_,λf vs r h=>?_,λfs k h=>?_⟩
 ·obtain⟨rfl,_⟩:=Tc h
  exact hk.1 us w
 ·obtain⟨rfl,s,k8,⟨q,rfl⟩,rfl⟩:=Tc h
  obtain⟨u,rfl⟩:∃u,us=[u]:=by
   match us,hl with
   |[u],_=>exact⟨u,rfl⟩
  have h0:=ha 0 _ u rfl rfl;have key:∃xa xb xo cap,u = .slice xa s.length cap/\(0<s.length->xa=some ⟨xb,xo,none⟩)/\(∀i v,s[i]?=some v->w.cell? ⟨xb,xo+i,none⟩=some (.int .i64 v)):=by
   generalize fu:s.map AZ=es at h0;have hlen:s.length=es.length:=by rw[<-fu,va]
   cases h0 with
   |one h0=>cases h0 with
    |rd h0=>cases h0 with
     |jl l a cap=>
      have:s=[]:=List.eq_nil_of_length_eq_zero (by rw[hlen];rfl)
      subst this;exact⟨a,0,0,cap,rfl,λh=>absurd h Z',λi v h=>by simp at h⟩
     |sl l es b o a7 cap u q6 hp hR cj hz u6 ko=>
      have gk:∀i v,s[i]?=some v->es[i]?=some [AV.int .i64 v]:=λi v h=>by rw[<-fu,Fa,h];rfl
      refine⟨_,b,o,cap,by rw[hlen],λ_=>rfl,λi v h=>?_⟩;have h1:=gk i v h;have h2:=hz _ (zM h1);have h2:1=a7:=h2;subst h2;have h3:=u6 i _ h1 0 _ rfl;have h4:=ko i _ h1 0 _ rfl;rw[Qe,Ja]at h3;rw[h3];generalize u i 0=y at h4;cases h4;rfl
  obtain⟨xa,xb,xo,cap,rfl,k1,k2⟩:=key;refine(hk.2 w xa xb xo cap s hw k1 k2 k8).mono λe w' ⟨he,hb⟩=>⟨_,he,⟨hb,λh=>absurd h hI⟩,.ca (.one (.rd (.str _))),hc⟩
 ·obtain⟨rfl,n,hn⟩:=AgJ h
  have hc:=vD (XN.of (I:=E0.Rf True) hP (λ_ _=>rfl) (λ_ _=>rfl) (λ_=>rfl)) n;refine⟨hc.qy _ _ _ hn,λS w us hl ha=>?_⟩;exact(hc.pure _ _ _ hn S w us trivial hl ha).mono λe w' ⟨u,h1,h2,h3,_⟩=>⟨u,h1,h2,h3⟩
 ·change sC fs=some k at h
  unfold sC at h;split at h
  ·rename_i e
   obtain rfl:=ga h;subst e;exact hs
  ·cases h
end Go.e9

namespace Go.e9
open F
variable {L:Lib}
theorem Bt.sm{k:Nat}{x:Rat}(h:Bt k x)(hk:k<2199023255552):Sm 68719476736 (dg x.num.natAbs)/\Sm 68719476736 (dg x.den):=h.dig O'
theorem KD(N:a6 L){x y:Rat}{k l:Nat}(hx:Bt k x)(hy:Bt l y)(hk:k<2199023255552)(hl:l<2199023255552):Ev L 98 [.agg (eQ x),.agg (eQ y)] (.agg (eQ (x+y))):=by
 have:=zO N 68719476736 O' (decide (x.num<0)) (decide (y.num<0)) false false false false _ _ _ _ (hx.sm hk).1 (hx.sm hk).2 (hy.sm hl).1 (hy.sm hl).2
 rw[GD,GD]at this;exact this
theorem K4(N:a6 L){x y:Rat}{k l:Nat}(hx:Bt k x)(hy:Bt l y)(hk:k<2199023255552)(hl:l<2199023255552):Ev L 99 [.agg (eQ x),.agg (eQ y)] (.agg (eQ (x*y))):=by
 have:=zP N 68719476736 O' (decide (x.num<0)) (decide (y.num<0)) false false false false _ _ _ _ (hx.sm hk).1 (hx.sm hk).2 (hy.sm hl).1 (hy.sm hl).2
 rw[GD,GD]at this;exact this
theorem mQ(N:a6 L){x y:Rat}{k l:Nat}(hx:Bt k x)(hy:Bt l y)(hk:k<2199023255552)(hl:l<2199023255552)(h0:y≠0):Ev L 100 [.agg (eQ x),.agg (eQ y)] (.j5 [.agg (eQ (x/y)),.int .i64 0]):=by
 have:=AjD N 68719476736 O' (decide (x.num<0)) (decide (y.num<0)) false false false false _ _ _ _ (hx.sm hk).1 (hx.sm hk).2 (hy.sm hl).1 (hy.sm hl).2 (by rw[GD];exact h0)
 rw[GD,GD]at this;exact this
theorem AjN(N:a6 L){x:Rat}{k:Nat}(hx:Bt k x)(hk:k<2199023255552):Ev L 95 [.agg (eQ x)] (.agg (eQ x)):=by
 have:=zU N (decide (x.num<0)) false false _ _ ((hx.sm hk).1.le O') ((hx.sm hk).2.le O')
 rw[GD]at this;exact this
theorem nJ(N:a6 L){x:Rat}{k:Nat}(hx:Bt k x)(hk:k<2199023255552):Ev L 97 [.agg (eQ x)] (.int .i64 (w6 x.num)):=by
 have:=zQ N (decide (x.num<0)) false false _ _ ((hx.sm hk).1.le O') ((hx.sm hk).2.le O')
 rw[GD]at this;exact this
theorem cF{x:Rat}:w6 x.num=0↔x=0:=by
 rw[<-Rat.num_eq_zero];unfold w6;split
 ·omega
 ·split<;>omega
end Go.e9

namespace Go.e9
open F
attribute [local irreducible] AA AF AX AC B4 AU A7 A8 BV BI B0 DS BG A1 BU CB AB A2 AH pw CG B3 CR DK C2 CO CJ BL CY C3 C4 CX C7
variable {L:Lib}
theorem Amu(n:Bool)(m d:u_):qv (!n) m d = -(qv n m d):=by
 unfold qv;have h:zv (!n) m = -(zv n m):=by cases n<;>simp[zv]
 rw[h,Pg]
theorem AgG(n:Bool)(m d:u_):AY (.agg (rQ false false n m d)):=by
 simp only[AY,BK,and_true,true_and];exact⟨C8 _,C8 _⟩
theorem AiL(N:bg L)(n:Bool)(m d:u_):Ev L 149 [.agg (rQ false false n m d)] (.agg (rQ false false (!n) m d)):=by
 refine Ev.x N.TS rfl rfl ?_;cases n;all_goals
  (repeat' (apply AE<;>conv=>whnf))
  exact AW rfl (AgG _ _ _)
theorem AjL(N:bg L){x y:Rat}{k l:Nat}(hx:Bt k x)(hy:Bt l y)(hk:k<2199023255552)(hl:l<2199023255552):Ev L 150 [.agg (eQ x),.agg (eQ y)] (.agg (eQ (x-y))):=by
 have hF:=AiL N (decide (y.num<0)) (dg y.num.natAbs) (dg y.den);have hA:=λq3 q4=>zO N.toa6 68719476736 O' (decide (x.num<0)) (!decide (y.num<0)) false false q3 q4 _ _ _ _ (hx.sm hk).1 (hx.sm hk).2 (hy.sm hl).1 (hy.sm hl).2
 rw[Amu,GD,GD,<-Pf]at hA;refine Ev.x N.TQ rfl rfl ?_;repeat' (first|apply AeY|apply AE|refine AD (hF) ?_|refine AD (hA _ _) ?_)<;>conv=>whnf
 exact AW rfl (DY _)
theorem AlL{x y:Int}(h:y≠0):mkRat (y.sign*x) y.natAbs=Oc x y:=by
 obtain⟨d,hd|hd⟩:=Int.eq_nat_or_neg y
 ·subst hd
  rw[Bc O',df,Mc,oc]
 ·subst hd
  rw[De O',Rg,Mc,Rat.divInt_neg',oc,Int.neg_one_mul]
theorem yE(N:bg L)(x y:Int)(hx:-9223372036854775808<=x/\x<=9223372036854775807)(hy:-9223372036854775808<=y/\y<=9223372036854775807)(h0:y≠0):Ev L 151 [.int .i64 x,.int .i64 y] (.agg (eQ (Oc x y))):=by
 have h1:=mS N.toa6 x hx;have h2:=mS N.toa6 y hy;have g1:Sm 2 (dg x.natAbs):=Sm.dg O';have g2:Sm 2 (dg y.natAbs):=Sm.dg O';have hl:=λq1 q2=>YB N.toa6 (decide (x<0) != decide (y<0)) q1 q2 (dg x.natAbs) (dg y.natAbs) (g1.le O') (g2.le O') (by rw[BQ];omega)
 unfold qv at hl;rw[Aeh h0,BQ,AlL h0]at hl;refine Ev.x N.TM rfl rfl ?_;repeat' (first|apply AG<;>intro hc<;>try omega|apply AE|refine AD (h1) ?_|refine AD (h2) ?_)<;>conv=>whnf
 refine EZ 1000 N.PL rfl rfl ?_;(repeat' (apply AE<;>conv=>whnf))
 generalize decide (x<0)=p at*;generalize decide (y<0)=r at*;cases p<;>cases r;all_goals
  (conv=>whnf)
  refine⟨rfl,?_⟩;conv=>whnf
  (repeat' (refine AD (hl _ _) ?_<;>conv=>whnf))
  exact AW rfl (DY _)
theorem nT{l:o_}{i:Nat}{x:Rat}(h:l[i]?=some x):l.getD i 0=x:=by rw[Ie,h];rfl
theorem rN(z:Int):w6 z = -1/\z<0\/w6 z=0/\z=0\/w6 z=1/\0<z:=by
 unfold w6;split
 ·exact Or.inl ⟨rfl,O'⟩
 ·split
  ·exact Or.inr (Or.inr ⟨rfl,O'⟩)
  ·exact Or.inr (Or.inl ⟨rfl,O'⟩)
theorem AgN{a b:Nat}{z:Int}(h:z=(a:Int)-b):DL a b=w6 z:=by
 unfold DL w6;subst h;repeat' split
 all_goals omega
theorem yP(N:cp L)(n1 n2 q1 q2:Bool)(a b:u_)(ha:Sm 549755813888 a)(hb:Sm 549755813888 b):Ev L 197 [.agg (rZ q1 n1 a),.agg (rZ q2 n2 b)] (.int .i64 (w6 (zv n1 a-zv n2 b))):=by
 have h1:=λq=>fR N.toa6 n1 q a ha
 have h2:=λq=>fR N.toa6 n2 q b hb
 have h3:=λq q'=>Q2 N.toc6 a b q q' ha.1 hb.1 (by have:=ha.2;omega) (by have:=hb.2;omega)
 have h4:=λq q'=>Q2 N.toc6 b a q q' hb.1 ha.1 (by have:=hb.2;omega) (by have:=ha.2;omega)
 have za:=FV n1 a;have zb:=FV n2 b;generalize zv n1 a=x at*;generalize zv n2 b=y at*;rcases rN x with⟨e1,g1⟩|⟨e1,g1⟩|⟨e1,g1⟩<;>rcases rN y with⟨e2,g2⟩|⟨e2,g2⟩|⟨e2,g2⟩
 all_goals
  rw[e1]at h1;rw[e2]at h2;refine Ev.x N.ST rfl rfl ?_;repeat' (first|apply AG<;>intro hc<;>try omega|apply AE|refine AD (h1 _) ?_|refine AD (h2 _) ?_|refine AD (h3 _ _) ?_|refine AD (h4 _ _) ?_)<;>conv=>whnf
  first
   |exact BP (rO O')
   |exact BP (rP O')
   |exact BP (AgN O')
theorem AjC(N:cp L)(k:Nat)(hk:1<=k/\k<=68719476736)(n1 n2:Bool)(m1 d1 m2 d2:u_)(ix:Sm k m1)(qf:Sm k d1)(ji:Sm k m2)(tv:Sm k d2) :
  Ev L 198 [.agg (rQ false false n1 m1 d1),.agg (rQ false false n2 m2 d2)] (.int .i64 (w6 (qv n1 m1 d1-qv n2 m2 d2).num)):=by
 obtain⟨a1,a2,a3,w1,gd,s1,s2,s3,s4,s5⟩:=NZ N.toa6 n1 m1 d1 k O' ix qf;obtain⟨b1,b2,b3,w2,dn,t1,t2,t3,t4,t5⟩:=NZ N.toa6 n2 m2 d2 k O' ji tv;rw[s5,t5,<-Uz s3 t3];by_cases hw:w1=true/\w2=true
 ·obtain⟨rfl,rfl⟩:=hw
  have hC:=λq q'=>yP N a1 b1 q q' a2 b2 (s1.le O') (t1.le O')
  rw[s4 rfl,t4 rfl];rw[show zv a1 a2*((1:Nat):Int)-zv b1 b2*((1:Nat):Int)=zv a1 a2-zv b1 b2 by omega];refine Ev.x N.PJ rfl rfl ?_;repeat' (first|apply IC|apply AE|refine AD (gd) ?_|refine AD (dn) ?_|refine AD (hC _ _) ?_)<;>conv=>whnf
  exact BP rfl
 ·have kx:=λq q'=>V3 N.toa6 a1 false q q' a2 b3 s1.1 t2.1 (by have:=s1.2;have:=t2.2;omega)
  have nm:=λq q'=>V3 N.toa6 b1 false q q' b2 a3 t1.1 s2.1 (by have:=t1.2;have:=s2.2;omega)
  have wj:=V5 N.toa6 a3;have wk:=V5 N.toa6 b3;have g1:Sm (k+k) (dg (zv a1 a2*zv false b3).natAbs):=W2 s1 t2;have g2:Sm (k+k) (dg (zv b1 b2*zv false a3).natAbs):=W2 t1 s2;have hC:=λq q'=>yP N (decide (zv a1 a2*zv false b3<0)) (decide (zv b1 b2*zv false a3<0)) q q' _ _ (g1.le O') (g2.le O')
  rw[GW,GW]at hC;rw[<-FI b3,<-FI a3];generalize zv a1 a2*zv false b3=x at*;generalize zv b1 b2*zv false a3=y at*;refine Ev.x N.PJ rfl rfl ?_;cases w1<;>cases w2
  ·repeat' (first|apply IC|apply RT|apply AE|refine AD (gd) ?_|refine AD (dn) ?_|refine AD (wj) ?_|refine AD (wk) ?_|refine AD (kx _ _) ?_|refine AD (nm _ _) ?_|refine AD (hC _ _) ?_)<;>conv=>whnf
   exact BP rfl
  ·repeat' (first|apply IC|apply RT|apply AE|refine AD (gd) ?_|refine AD (dn) ?_|refine AD (wj) ?_|refine AD (wk) ?_|refine AD (kx _ _) ?_|refine AD (nm _ _) ?_|refine AD (hC _ _) ?_)<;>conv=>whnf
   exact BP rfl
  ·repeat' (first|apply IC|apply RT|apply AE|refine AD (gd) ?_|refine AD (dn) ?_|refine AD (wj) ?_|refine AD (wk) ?_|refine AD (kx _ _) ?_|refine AD (nm _ _) ?_|refine AD (hC _ _) ?_)<;>conv=>whnf
   exact BP rfl
  ·exact absurd ⟨rfl,rfl⟩ hw
theorem mP(N:cp L){x y:Rat}{k l:Nat}(hx:Bt k x)(hy:Bt l y)(hk:k<2199023255552)(hl:l<2199023255552):Ev L 198 [.agg (eQ x),.agg (eQ y)] (.int .i64 (w6 (x-y).num)):=by
 have:=AjC N 68719476736 O' (decide (x.num<0)) (decide (y.num<0)) _ _ _ _ (hx.sm hk).1 (hx.sm hk).2 (hy.sm hl).1 (hy.sm hl).2
 rw[GD,GD]at this;exact this
def DE(n:Nt):List (List (Int×Int)):=n.nodes.map Nd.ts
def G4(n:Nt)(src ex:Int):o_:=HE ((pw n.c.f:Int):Rat) ex 0 (DF (1+n.s).toNat src) (DE n)
theorem iL{c:Wd}{s:Int}:∀{l:List Nd}{k j:Nat}{nd:Nd},G1 c s k l=true->l[j]?=some nd->nd.ts.all (IA c s (k+j))=true
 |[],_,_,_,_,h=>by simp at h
 |e::l,k,0,nd,hb,h=>by
  simp only[List.getElem?_cons_zero,Nc]at h;subst h;simp only[G1,Pb]at hb;exact hb.1.2
 |e::l,k,j+1,nd,hb,h=>by
  simp only[List.getElem?_cons_succ]at h;simp only[G1,Pb]at hb;rw[show k+(j+1)=k+1+j by omega];exact iL hb.2 h
theorem An5(m p:Nat):(Ia m (0:Rat)).set p 1=DF m p:=by
 refine ye λj=>?_
 simp only[DF,Lc,Fa,Hc,List.length_replicate];by_cases h:j<m
 ·rw[Ib h]
  by_cases e:p=j
  ·subst e;simp[h]
  ·simp[h,e];intro h3;omega
 ·rw[tc (by simpa using h)]
  simp[h];intro e;omega
theorem Bs.unit(k m:Nat)(p:Int):Bs k (DF m p):=by
 intro x hx;simp only[DF,nb]at hx;obtain⟨a,_,rfl⟩:=hx;split
 ·exact Bt.one k
 ·exact Bt.zero k
def FP(n:Nt):HX where
 a:=n.next.map λe=>(Je n.s.toNat).map λ(j:Nat)=>(G4 n ((j:Int)+1) (-1)).getD e.toNat 0
 b:=n.next.map λe=>(G4 n 0 (-1)).getD e.toNat 0
 c:=(Je n.s.toNat).map λ(j:Nat)=>(G4 n ((j:Int)+1) (-1)).getD n.out.toNat 0
 d:=(G4 n 0 (-1)).getD n.out.toNat 0
def fz{α:Type}(z:α)(l:List α)(m:Nat):List α:=l++Ia (m-l.length) z
theorem Tt{α:Type}{z:α}{l:List α}{m:Nat}(h:l.length<=m):(fz z l m).length=m:=by simp[fz];omega
theorem Tu{α:Type}{z x:α}{l:List α}{m:Nat}(h:l.length<m):(fz z l m).set l.length x=fz z (l++[x]) m:=by
 unfold fz;obtain⟨k,hk⟩:∃k,m-l.length=k+1:=⟨m-l.length-1,O'⟩;rw[vd _ _ Z',hk,pe,List.replicate_succ,List.set_cons_zero,Na,La,show m-(l.length+1)=k by omega,re];rfl
theorem Tr{α:Type}{z:α}{l:List α}{m:Nat}(h:l.length<m):(fz z l m)[l.length]?=some z:=by
 unfold fz;rw[List.getElem?_append_right O',pe,Hc,if_pos O']
theorem Ts{α:Type}{z:α}{l:List α}{m:Nat}(h:l.length=m):fz z l m=l:=by simp[fz,h]
theorem sQ{α:Type}{l:List α}{i:Nat}{x:α}(h:l[i]?=some x):l.take (i+1)=l.take i++[x]:=by
 rw[Bd,h];rfl
def cf(l:o_)(prev:List (Option Rat))(i:Nat):List (Option Rat):=(l.take i).map some++prev.drop i
end Go.e9

namespace Go.e9
open F
attribute [local irreducible] AA AF AX AC B4 AU A7 A8 BV BI B0 DS BG A1 BU CB AB A2 AH pw CG B3 CR DK C2 CO CJ BL CY C3 C4 CX C7
variable {L:Lib}
structure RwN where
 n:Bool
 m:u_
 d:u_
abbrev eW(w:RwN):w_:=rQ false false w.n w.m w.d
section program
end program
section reference
end reference
end Go.e9

