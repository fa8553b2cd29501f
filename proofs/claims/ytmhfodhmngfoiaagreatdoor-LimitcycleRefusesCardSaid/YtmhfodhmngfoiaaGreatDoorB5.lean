/-
  The references of natural numbers (ref01): lengths, shifts, division by a digit.
-/
import Derived.Test.YtmhfodhmngfoiaaGreatDoorB4
import Derived.Test.YtmhfodhmngfoiaaGreatDoorB1
import Derived.Test.YtmhfodhmngfoiaaGreatDoorB2
import Derived.Test.YtmhfodhmngfoiaaGreatDoorB3
import Derived.Lib.ItoaLen
set_option linter.unusedSimpArgs false
set_option linter.unusedVariables false
set_option linter.unnecessarySimpa false
set_option maxHeartbeats 16000000
open Bool renaming and_eq_true->Mb,false_and->jg
open Int renaming toNat_natCast->Aa,eq_ofNat_of_zero_le->ob,mul_ediv_cancel_left->Ob,toNat_of_nonneg->Nb,natCast_mul->Hb,natAbs_mul->Eb,natCast_add->ec,natAbs_natCast->Jc,sign_eq_one_of_pos->kd,mul_nonneg->Bd,mul_neg->ze,lt_or_eq_of_le->re,one_mul->De,sign_eq_neg_one_of_neg->pf,add_zero->Ef,neg_mul->Df,sub_eq_add_neg->yg,ofNat_dvd_left->xg,natAbs_neg->bg,mul_le_mul->Og,mul_assoc->Lg,mul_zero->Fg,gcd->Eg
open List renaming drop_zero->ya,length_map->va,mem_cons_self->ua,length_take->oa,length_append->ja,replicate->ga,mem_cons_of_mem->Na,drop_of_length_le->Ma,length_singleton->Ja,mem_singleton->Fa,getElem?_map->Ca,mem_append->ub,drop_set_of_lt->rb,mem_map->eb,cons.inj->Jb,map->Fb,all_eq_true->Db,pairwise_iff_getElem->Cb,getElem?_range->Bb,map_cons->Ab,length_eq_one_iff->xc,head?_eq_getElem?->uc,getElem?_set_self->tc,set_append_right->pc,getElem?_eq_none->oc,mem_reverse->nc,take->Nc,getElem?_set->Hc,append_assoc->Gc,mem_cons->Fc,length_cons->Bc,getElem?_replicate->Ac,append_nil->od,length_replicate->Ld,take_zero->Jd,mem_of_mem_drop->Hd,take_add_one->pe,nodup_append->oe,ext_getElem?->je,drop_sublist->ie,length_drop->Me,getElem_mem->Le,drop_length->Je,nil_append->Fe,map_append->Ee,range->yf,getD_eq_getElem?_getD->xf,getElem?_append_left->qf,getElem?_take_of_lt->lf,nodup_nil->kg,map_drop->cg,map_nil->Mg,length->Gg
open Nat renaming le_refl->ea,mod_lt->da,gcd->Pa,add_zero->La,pow_succ->Ha,mul_comm->Ga,div_eq_of_lt->tb,mod_eq_of_lt->qb,two_pow_pos->nb,mul_le_mul_left->mb,zero_add->db,div_lt_iff_lt_mul->Pb,mul_zero->Lb,div_add_mod->zc,lt_of_lt_of_le->yc,sub_zero->sc,one_mul->jc,min_eq_left->fc,zero_mul->Pc,mul_lt_mul_of_pos_right->Oc,mul_assoc->Cc,mul_mod_left->xd,sub_self->vd,le_of_lt->pd,mul_add_mod->cd,mul_add_div->Md,pow_mul->Gd,pow_le_pow_right->Ed,pow_add->Dd,mul_one->Cd,beq->ve,gcd_zero_right->ue,eq_zero_or_pos->te,pow_zero->Oe,mul_add->Ie,div_one->He,add_mul->Ge,mul_ne_zero->Ce,div_le_self->Ae,gcd_pos_of_pos_right->gf,add_assoc->ef,le_mul_of_pos_right->Pf,zero_div->Lf,gcd_comm->Jf,div_div_eq_div_mul->Ff,strongRecOn->lg,succ_mul->Jg,add_comm->Ig
open Option renaming some.inj->na,some.injEq->Lc,map_some->yd,toList_some->ye,getD_some->Cf
open Prod renaming mk.injEq->mf
open Rat renaming divInt_ofNat->kc,divInt->Mc,sub_eq_add_neg->Af,num_intCast->qg,den_intCast->ng,zero_mkRat->gg,mkRat_zero->fg,neg_mkRat->Ng
namespace Go.Eng
open F
attribute [local irreducible] AA AF AW AC EC AX BD CM BS D7 BR A5 C9 AB A8 AH pw
variable {L:Lib}
theorem Ahf{d:Nat}(h0:d≠0)(hd:d<4294967296):dg d=[d]:=by
 rw[KR h0,tb hd,FJ,qb hd]
theorem Ajd(N:b7 L)(d:Nat)(q:Bool)(h0:d≠0)(hd:d<4294967296):Ev L 106 [.sl q ([d].map AJ)] (.int .i64 (u7 d:Int)):=by
 have hT:=λq=>HJ N [d] q (II hd) Z'
 rw[show val [d]=d by simp[val],Ahf h0 hd]at hT;have sf:[d].length=1:=rfl;have qa:[d][(([d].length:Int)-1).toNat]?=some d:=rfl;have hb:=dT (k:=32) hd;refine Ev.x N.PG rfl rfl ?_;repeat' (first|apply AG<;>intro hc<;>try omega|apply BP;omega|apply F3;omega|apply AP|refine A3 V' ?_ rfl ?_;omega|apply AE|refine AD (hT _) ?_)<;>conv=>whnf
 refine DT (λ_ x=>x) (λ(n x:Nat)=>n+u7 x=u7 d/\x<=d) (λn x=>[(3,.int .i64 n),(4,.int .u32 (x:Int))]) (λ_ _=>[]) 0 d ⟨O',ea _⟩ ?_;intro n x ⟨p1,p2⟩ ih;by_cases hx:x=0
 ·subst hx
  have:u7 0=0:=by unfold u7;simp
  repeat' (first|apply AG<;>intro hc<;>try omega|apply AE)<;>conv=>whnf
  exact BM O'
 ·have h1:u7 (x/2)+1=u7 x:=by
   by_cases h1:x=1
   ·subst h1;decide
   ·exact Z1 1 (x:=x) O'
  repeat' (first|apply AG<;>intro hc<;>try omega|apply AR;omega|apply Ae7|apply AE)<;>conv=>whnf
  exact BC [] (ih (n+1) (x/2) O' ⟨O',O'⟩)
theorem Yi{V P X lo s d p t:Nat}(h:V+P*p*lo=P*(X*2^s))(ht:t=lo+d*2^s):V+P*p*(t%4294967296)+P*p*4294967296*(t/4294967296)=P*((X+p*d)*2^s):=by
 have h1:=QO V (P*p) t;rw[h1,ht];have:P*((X+p*d)*2^s)=P*(X*2^s)+P*p*(d*2^s):=A'
 rw[this,<-h,Ie];omega
theorem zF(N:b7 L)(l:u_)(q:Bool)(n:Nat)(hD:A1 l)(hl:l.length<=549755813888)(hn:n<=65536):Ev L 107 [.sl q (l.map AJ),.int .i64 (n:Int)] (.sl false ((dg (val l*2^n)).map AJ)):=by
 have hT:=λq=>HJ N l q hD O'
 have d1:=DX (val l);have v1:=BN (val l);have l1:=FA hD;have hz:=IH (val l);refine Ev.x N.JO rfl rfl ?_;by_cases h0:val l=0
 ·rw[h0,Pc,FJ]
  repeat' (first|apply AG<;>intro hc<;>try omega|apply AP|apply AE|refine AD (hT _) ?_)<;>conv=>whnf
  exact AU rfl (LR [])
 rw[<-v1];generalize dg (val l)=x at*;have fb:n%32<32:=da _ O';have e1:(n:Int)/32=((n/32:Nat):Int):=O'
 have e2:(n:Int)%32=((n%32:Nat):Int):=O'
 repeat' (first|apply AG<;>intro hc<;>try omega|(refine KM ?_ ?_ (λ_=>?_) (λ_ _=>?_);omega;omega;all_goals try omega)|apply AP|apply AE|refine AD (hT _) ?_)<;>conv=>whnf
 rw[e1];refine E6 (enc:=AJ) 0 (n/32) rfl rfl O' ?_;conv=>whnf
 skip
 refine FP (λi _ _=>x.length-i) (λ(i:Nat)(o:u_)(c:Nat)=>i<=x.length/\o.length=n/32+i/\A1 o/\c<2^(n%32)/\val o+4294967296^(n/32)*4294967296^i*c=4294967296^(n/32)*(val (x.take i)*2^(n%32))) (λi o c=>[(10,.int .i64 i),(9,.int .u64 (c:Int)),(8,.row 107069 0 1 0 (n/32+i))]) (λi o c=>[(107069,107069,.rw 1 (o.map AJ))]) 0 (ga (n/32) 0) 0 ⟨O',Z',KS _,nb _,by simp[val,kF]⟩ ?_;intro i o c ⟨p1,p2,p3,p4,p5⟩ ih;have oy:=bQ (s:=n%32) O';by_cases hi:i<x.length
 ·obtain⟨d,hd⟩:=N' x i hi
  have az:=d1.at hd;obtain⟨f1,f2,f3,f4⟩:=WU (s:=n%32) az O';have hr:=iD (show n%32<=64 by omega) f4;repeat' (first|apply AG<;>intro hc<;>try omega|(refine IZ ?_ (λ_ _ _=>?_) (λ_ _ _ _=>?_);omega;all_goals try omega)|apply B1;omega|apply AP|refine A3 V' ?_ rfl ?_;omega|apply AE)<;>conv=>whnf
  rw[e2];refine QJ O' f4 ?_;conv=>whnf
  skip
  refine dG (n%32) (xd _ _) p4 O' ?_;conv=>whnf
  have o4:=Yi (d:=d) p5 rfl;have ru:(c+d*2^(n%32))/4294967296<2^(n%32):=by
   rw[Pb O'];have:=zR (2^(n%32)) (show d<=4294967295 by omega)
   omega
  generalize c+d*2^(n%32)=t at*;repeat' (first|apply GV|apply CI)<;>conv=>whnf
  refine C1 (enc:=AJ) (t%4294967296) rfl p2.symm rfl O' O' ?_;conv=>whnf
  repeat' (first|apply AR;omega|apply GD)<;>conv=>whnf
  rw[show(o++[t%4294967296]).length=n/32+(i+1)by simp[p2];omega];refine A9 [(107069,107091)] E' (ih (i+1) (o++[t%4294967296]) (t/4294967296) O' ⟨O',by simp;omega,p3.append (II O'),ru,?_⟩);rw[N6,p2,EB hd,Dd,Ha,<-Cc];exact o4
 ·obtain rfl:i=x.length:=O'
  clear ih;have tk:c<4294967296:=O'
  have hOD:A1 (o++[c]):=p3.append (II tk);have Ex:val (o++[c])=val x*2^n:=by
   rw[N6,p2,Dd,p5,C8 (ea _)];have e3:2^n=4294967296^(n/32)*2^(n%32):=by
    rw[show 4294967296=2^32 from rfl,<-Gd,<-Dd];congr 1;omega
   rw[e3];grind
  have Ew:(o++[c]).length=n/32+x.length+1:=by simp[p2]
  repeat' (first|apply AG<;>intro hc<;>try omega|apply EP;omega|apply AP|apply CI|apply AE)<;>conv=>whnf
  refine C1 (enc:=AJ) c rfl p2.symm rfl O' O' ?_;conv=>whnf
  rw[<-Ex,Ew];generalize o++[c]=O at*;rw[<-Ew];clear p3 p4 p5 Ex;refine IX 1000 N.JP rfl rfl ?_;(repeat' (apply AE<;>conv=>whnf))
  refine C0 (λn=>n) (λ(n:Nat)=>n<=(O).length/\∀i,n<=i->i<(O).length->(O)[i]?=some 0) (λn=>[(3,.int .i64 n)]) (λ_=>[]) (O).length ⟨ea _,λi h1 h2=>O'⟩ ?_;intro n ⟨p1,p2⟩ ih;rcases n with _|n
  ·repeat' (first|apply AG<;>intro hc<;>try omega|apply AE)<;>conv=>whnf
   refine IW 0 O' O' ?_;conv=>whnf
   have er:=HU (l:=O) V' p1 p2 (Or.inl rfl);have s8:(Nc 0 O).length<=(O).length:=by rw[oa];omega
   clear ih p2;refine dM (enc:=AJ) O' ?_;conv=>whnf
   rw[ya,sc];generalize Cx:Nc 0 O=T0 at*;refine RK (enc:=AJ) (λ_=>rfl) O' O' ?_;conv=>whnf
   refine⟨rfl,_,rfl,?_⟩;conv=>whnf
   (refine CR (enc:=AJ) (λ_=>rfl) rfl rfl ?_;(conv=>whnf);exact AU (by rw[<-er]) (LR _))
  ·have e1:((n+1:Nat):Int)-1=n:=O'
   repeat' (first|apply AG<;>intro hc<;>try omega|apply A2;omega|apply BP;omega|refine U6 V' ?_ (λv hv hb=>?_);omega|apply AE)<;>conv=>whnf
   ·rw[e1]
    exact BC [] (ih n O' ⟨O',λi h1 h2=>by
     by_cases h:i=n
     ·subst h
      rw[e1,Aa]at hv;rw[hv];congr 1;omega
     ·exact p2 i O' h2⟩)
   ·refine IW (n+1) O' O' ?_
    (conv=>whnf)
    rw[e1,Aa]at hv;have er:=HU (l:=O) V' p1 p2 (Or.inr ⟨_,hv,O'⟩);have s8:(Nc (n+1) O).length<=(O).length:=by rw[oa];omega
    clear ih p2 hv;(rw[uS (l:=O)];rotate_left;exact rfl;exact rfl);conv=>whnf
    refine dM (enc:=AJ) O' ?_;conv=>whnf
    rw[ya,sc];generalize Cx:Nc (n+1) O=T0 at*;refine RK (enc:=AJ) (λ_=>rfl) O' O' ?_;conv=>whnf
    refine⟨rfl,_,rfl,?_⟩;conv=>whnf
    (refine CR (enc:=AJ) (λ_=>rfl) rfl rfl ?_;(conv=>whnf);exact AU (by rw[<-er]) (LR _))
theorem An8{l:u_}(hD:A1 l)(k:Nat)(hk:k<=l.length):val (l.drop k)=val l/4294967296^k:=by
 have h1:=LH l k hk;have h2:=FM (hD.take k);rw[oa,fc hk]at h2;rw[h1,Nat.add_mul_div_left _ _ (Nat.pow_pos O'),tb h2,db]
theorem Aml(n:Nat):2^n=4294967296^(n/32)*2^(n%32):=by
 rw[show 4294967296=2^32 from rfl,<-Gd,<-Dd];congr 1;omega
theorem Ah6{d e V r:Nat}(hd:d<4294967296)(hr:r<32):(d+e*4294967296)/2^r%4294967296+4294967296*((e+4294967296*V)/2^r)=(d+4294967296*(e+4294967296*V))/2^r:=by
 obtain⟨f1,f2,f3⟩:=Ut (V:=e) hd (show r<=32 by omega);rw[pC (d:=d) (V:=e+4294967296*V) O',Sr (d:=e) (V:=V) O'];have h1:=pC (d:=d) (V:=e) (s:=r) O';rw[show d+e*4294967296=d+4294967296*e by omega,h1];clear h1;generalize d/2^r=A at*;generalize e%2^r*2^(32-r)=Q at*;generalize e/2^r=Z at*;generalize 2^(32-r)=P at*;omega
theorem Ajg(N:b7 L)(l:u_)(q:Bool)(n:Nat)(hD:A1 l)(hl:l.length<=549755813888)(hn:1<=n/\n<=65536):Ev L 107 [.sl q (l.map AJ),.int .i64 (-(n:Int))] (.sl false ((dg (val l/2^n)).map AJ)):=by
 have hT:=λq=>HJ N l q hD O'
 have d1:=DX (val l);have v1:=BN (val l);have l1:=FA hD;have hz:=IH (val l);refine Ev.x N.JO rfl rfl ?_;by_cases h0:val l=0
 ·rw[h0,Lf,FJ]
  repeat' (first|apply AG<;>intro hc<;>try omega|apply AP|apply AE|refine AD (hT _) ?_)<;>conv=>whnf
  exact AU rfl (LR [])
 rw[<-v1];generalize dg (val l)=x at*;have Nv:n%32<32:=da _ O';have e1:(- -(n:Int))/32=((n/32:Nat):Int):=O'
 have e2:(- -(n:Int))%32=((n%32:Nat):Int):=O'
 by_cases Mf:32*x.length<n
 ·have hlt:val x/2^n=0:=by
   refine tb (yc (FM d1) ?_);rw[show 4294967296=2^32 from rfl,<-Gd];exact Ed O' O'
  rw[hlt,FJ];repeat' (first|apply AG<;>intro hc<;>try omega|apply F3;omega|apply AP|apply AE|refine AD (hT _) ?_)<;>conv=>whnf
  exact AU rfl (LR [])
 have hk:n/32<=x.length:=O'
 have hvd:=An8 d1 _ hk;repeat' (first|apply AG<;>intro hc<;>try omega|apply F3;omega|(refine KM ?_ ?_ (λ_=>?_) (λ_ _=>?_);omega;omega;all_goals try omega)|apply EC.neg;omega|apply AP|apply AE|refine AD (hT _) ?_)<;>conv=>whnf
 rw[e1];refine DT (λi _=>x.length-i) (λ(i:Nat)(o:u_)=>n/32<=i/\i<=x.length/\o.length=i-n/32/\A1 o/\val o+4294967296^(i-n/32)*(val (x.drop i)/2^(n%32))=val (x.drop (n/32))/2^(n%32)) (λi o=>[(6,.int .i64 i),(5,.row 107005 0 1 0 o.length)]) (λi o=>[(107005,107005,.rw 1 (o.map AJ))]) (n/32) [] ⟨ea _,hk,Z',X4,by simp[val]⟩ ?_;intro i o ⟨p0,p1,p2,p3,p5⟩ ih;by_cases hi:i<x.length
 ·obtain⟨d,hd⟩:=N' x i hi
  have az:=d1.at hd;have g1:=IU hd;have g2:=W6 x (i+1);have g3:=Ah6 (e:=x.getD (i+1) 0) (V:=val (x.drop (i+1+1))) az Nv;rw[<-g2,<-g1]at g3;have key:∀t,t=d+x.getD (i+1) 0*4294967296->val (o++[t/2^(n%32)%4294967296])+4294967296^(i+1-n/32)*(val (x.drop (i+1))/2^(n%32))=val (x.drop (n/32))/2^(n%32):=λt ht=>by
   rw[N6,p2,show i+1-n/32=(i-n/32)+1 by omega,Ha,ht,ef,Cc,<-Ie,g3];exact p5
  by_cases hy:i+1<x.length
  ·obtain⟨e,he⟩:=N' x (i+1) hy
   have Mo:=d1.at he;have im:x[((i:Int)+1).toNat]?=some e:=by rw[show((i:Int)+1).toNat=i+1 by omega];exact he
   rw[H7 he]at key;repeat' (first|apply AG<;>intro hc<;>try omega|apply AR;omega|apply OA;omega|apply B1;omega|apply AP|refine A3 V' ?_ rfl ?_;omega|apply AE)<;>conv=>whnf
   refine dG 32 (xd _ _) O' O' ?_;conv=>whnf
   repeat' (first|(refine IZ ?_ (λ_ _ _=>?_) (λ_ _ _ _=>?_);omega;all_goals try omega)|apply B1;omega)<;>conv=>whnf
   rw[e2];refine QI (n:=n%32) (by show n%32<=64;omega) ?_;conv=>whnf
   repeat' (first|apply GV|apply CI)<;>conv=>whnf
   refine C1 (enc:=AJ) ((d+e*4294967296)/2^(n%32)%4294967296) rfl rfl rfl O' O' ?_;conv=>whnf
   repeat' (first|apply AR;omega|fail)<;>conv=>whnf
   exact BC [(107005,107064)] (ih (i+1) (o++[(d+e*4294967296)/2^(n%32)%4294967296]) O' ⟨O',O',by simp;omega,p3.append (II O'),key (d+e*4294967296) rfl⟩)
  ·rw[<-getD_none (show x.length<=i+1 by omega),Pc]at key
   repeat' (first|apply AG<;>intro hc<;>try omega|apply AR;omega|(refine IZ ?_ (λ_ _ _=>?_) (λ_ _ _ _=>?_);omega;all_goals try omega)|apply B1;omega|apply AP|refine A3 V' ?_ rfl ?_;omega|apply AE)<;>conv=>whnf
   rw[e2];refine QI (n:=n%32) (by show n%32<=64;omega) ?_;conv=>whnf
   repeat' (first|apply GV|apply CI)<;>conv=>whnf
   refine C1 (enc:=AJ) (d/2^(n%32)%4294967296) rfl rfl rfl O' O' ?_;conv=>whnf
   repeat' (first|apply AR;omega|fail)<;>conv=>whnf
   exact BC [(107005,107064)] (ih (i+1) (o++[d/2^(n%32)%4294967296]) O' ⟨O',O',by simp;omega,p3.append (II O'),key d rfl⟩)
 ·obtain rfl:i=x.length:=O'
  clear ih;rw[Ma (ea _),KH,Lf,Lb,La,hvd,Ff,<-Aml]at p5;have Is:=λq=>HJ N o q p3 O'
  rw[p5]at Is;repeat' (first|apply AG<;>intro hc<;>try omega|apply AP|(refine CR (λ_=>rfl) rfl ?_ ?_;(first|rfl|simp))|apply AE|refine AD (Is _) ?_)<;>conv=>whnf
  exact AU rfl (LR _)
end Go.Eng
namespace Go.Eng
open F
attribute [local irreducible] AA AF AW AC EC AX BD BG CM A5 C9 AB AH pw
variable {L:Lib}
theorem Ank{V R y d t Q:Nat}(h:Q*y+R=V)(ht:t=R*4294967296+d):(t/y+4294967296*Q)*y+t%y=d+4294967296*V:=by
 have:=zc t y
 rw[<-h,Ge];have e:t/y*y=y*(t/y):=Ga _ _;grind
theorem Ajh(N:b7 L)(x:u_)(Y:Nat)(q:Bool)(d1:A1 x)(hx:x.length<=549755813888)(h0:Y≠0)(hY:Y<4294967296):Ev L 108 [.sl q (x.map AJ),.int .u32 (Y:Int)] (.j4 [.sl false ((dg (val x/Y)).map AJ),.int .u32 ((val x%Y:Nat):Int)]):=by
 refine Ev.x N.PJ rfl rfl ?_;repeat' (first|apply AP|apply AE)<;>conv=>whnf
 refine E6 (enc:=AJ) 0 x.length rfl O' O' ?_;conv=>whnf
 repeat' (first|apply BP;omega|apply AP)<;>conv=>whnf
 refine FP (λn _ _=>n) (λ(n:Nat)(o:u_)(r:Nat)=>n<=x.length/\o.length=x.length/\A1 o/\r<Y/\val (o.drop n)*Y+r=val (x.drop n)) (λn o r=>[(7,.int .u64 (r:Int)),(8,.int .i64 ((n:Int)-1))]) (λn o r=>[(11,11,.rw 1 (o.map AJ))]) x.length (ga x.length 0) 0 ⟨O',Z',KS _,O',by rw[Ma (ea _),Ma Z'];simp[val]⟩ ?_;intro n o r ⟨p1,p2,p3,p4,p5⟩ ih;rcases n with _|n
 ·rw[ya,ya]at p5
  have hq:val x/Y=val o/\val x%Y=r:=by
   rw[<-p5];have e1:(val o*Y+r)/Y=val o:=by
    rw[Ga,Md O',tb p4,La]
   have e2:(val o*Y+r)%Y=r:=by
    rw[Ga,cd,qb p4]
   exact⟨e1,e2⟩
  have hT:=λq=>HJ N o q p3 O'
  rw[hq.1,hq.2,<-p2];clear ih hq p5;repeat' (first|apply AG<;>intro hc<;>try omega|apply EP;omega|(refine CR (λ_=>rfl) rfl ?_ ?_;(first|rfl|simp))|apply AE|refine AD (hT _) ?_)<;>conv=>whnf
  refine AU rfl ?_;simp only[AY,BI,and_true,true_and];exact CS _
 ·have e1:((n+1:Nat):Int)-1=n:=O'
  rw[e1];obtain⟨d,hd⟩:=N' x n;have az:=d1.at hd;have hR:r*4294967296+d<Y*4294967296:=O'
  have vl:(r*4294967296+d)/Y<4294967296:=(Pb O').2 O';repeat' (first|apply AG<;>intro hc<;>try omega|apply A2;omega|apply OA;omega|apply QH;omega|(apply dH;omega;omega)|apply B1;omega|apply EP;omega|refine A3 V' ?_ rfl ?_;omega|apply AE)<;>conv=>whnf
  obtain⟨t,ht⟩:∃t,t=r*4294967296+d:=⟨_,rfl⟩;rw[<-ht]at hR vl⊢;have hm:t%Y<Y:=da _ O';have o4:=Ank p5 ht;rw[<-IU hd]at o4;clear ht;skip
  refine F4 O' ?_;conv=>whnf
  repeat' (first|apply BP;omega|apply ZR;omega|apply B1;omega)<;>conv=>whnf
  generalize t/Y=tq at*;generalize t%Y=tr at*;refine A9 [] E' (ih n _ _ O' ⟨O',by simpa using p2,p3.set _ O',hm,?_⟩);rw[IU (l:=o.set n tq) (d:=tq) (by rw[tc O']),rb O'];exact o4
theorem eF(a b:u_)(e:Int):AY (.j4 [.sl false (a.map AJ),.sl false (b.map AJ),.int .i64 e]):=by
 simp only[AY,BI,and_true,true_and];exact⟨CS a,CS b⟩
abbrev Ahn:List It:=[It.lp D6.l1,It.c9 0,
   It.code
    (((BF.ops D6.Dy false).dr [0,75,79,80] []).seq
     (((BF.ops D6.Dz false).dr [81,82,83,84,85] []).seq
      ((((BF.ops D6.Ea false).dr [86,87,88,89,90] []).seq
         (BF.block 2 D6.l2.loop)).seq
       (((BF.ops D6.Pn true).dr [9,10,11,12,13,14,92,277,278,279,280,281,282,283,284]
          []).seq
        BF.ret))))]
abbrev eU:List It:=[It.lp D6.l2,It.c9 2,It.code
       (((BF.ops D6.Pn true).dr [9,10,11,12,13,14,92,277,278,279,280,281,282,283,284]
          []).seq
        BF.ret)]
abbrev fD(v:u_)(s ul m:Nat)(j:Int):Tm:=[(14,.int .i64 j),(13,.row 85 0 1 0 m),(12,.int .i64 v.length),(11,.sl false (v.map AJ)),(10,.row 69 0 1 0 ul),(9,.int .i64 (s:Int))]
abbrev Ahm:BF:=(((BF.ops D6.r39 false).dr [18,19,20,166,205,206,207] []).seq
                (((BF.ops D6.r40 false).dr [208,209,210,211,212,213,214] []).seq
                 ((BF.ops D6.r41 false).seq
                  ((((BF.ops D6.r42 false).dr [215,216] []).seq
                     (BF.cond 217
                      (((BF.ops D6.r43 false).dr [18,217,218,219] []).seq
                       (BF.ops D6.r44 false))
                      BF.skip)).seq
                   (((BF.ops D6.r45 false).dr
                      [23,24,217,220,221,222,223,224,225,226,227,228] []).seq
                    ((((BF.ops D6.r46 false).dr [18,229] []).seq
                       (BF.cond 230
                        (((BF.ops D6.r47 false).dr [230,231,232] []).seq
                         ((BF.ops D6.r48 false).seq
                          (((BF.ops D6.r49 false).seq
                             (BF.block 8 D6.l5.loop)).seq
                           ((BF.ops D6.r55 false).dr
                            [25,26,235,262,263,264,265,266,267,268,269,270,271]
                            []))))
                        BF.skip)).seq
                     ((BF.ops D6.r56 false).dr [16,230,272,273,274,275,276]
                      [])))))))
abbrev Aho:List It:=It.lp D6.l4::It.c9 6::It.code Ahm::It.c9 3::It.code ((BF.ops D6.Ao false).dr [93,94] [])::eU
section
variable {A W C w y:u_} {j m s ul q:Nat} {Q:Tm->Mem->Prop}
theorem W9{e i n:Nat}(hi:i=A.length+n)(he:W[n]?=some e):(A++W++C)[i]?=some e:=by
 rw[Xi hi (zS he).1];exact he
theorem mB(hA:A.length=j)(hW:W.length=y.length+1)(D2:A1 W)(gn:A1 y)(iv:2<=y.length)(vu:y.length<=549755813888)(bn:0<val y)(eh:j<=1099511627776)
  (oz:ul=j+(y.length+1)+C.length) (Ju:w.length=m) (Ji:j<m)
  (r1:q<4294967296) (r2:val W/val y<=q) (r3:q<=val W/val y+1)
  (hk:∀(W':u_)(q':Nat),W'.length=y.length+1->A1 W'->val W'=val W%val y->q'=val W/val y->AA L eU (fD y s ul m ((j:Int)-1)) [(69,101021,.rw 1 ((A++W'++C).map AJ)),(85,85,.rw 1 ((w.set j q').map AJ))] Q) :
  AA L Aho ([(20,.int .i64 0),(19,.int .u64 0),(18,.int .u64 0),(16,.int .u64 (q:Int))]++fD y s ul m (j:Int)) [(69,101021,.rw 1 ((A++W++C).map AJ)),(85,85,.rw 1 (w.map AJ))] Q:=by
 refine tF (λi _ _ _=>y.length-i) (λ(i:Nat)(Z:u_)(c b:Nat)=>i<=y.length/\Z.length=y.length+1/\A1 Z/\c<4294967296/\b<=1/\Z.drop i=W.drop i/\val (Z.take i)+q*val (y.take i)=val (W.take i)+4294967296^i*(c+b)) (λi Z c b=>[(20,.int .i64 i),(18,.int .u64 (b:Int)),(19,.int .u64 (c:Int))]) (λi Z c b=>[(69,101021,.rw 1 ((A++Z++C).map AJ))]) [] [] 0 W 0 0 E' ⟨O',hW,D2,O',O',rfl,by simp[val]⟩ ?_;intro i Z c b ⟨p1,p2,p3,p4,p5,p6,p7⟩ ih;by_cases hi:i<y.length
 ·obtain⟨d,hd⟩:=N' y i hi
  obtain⟨u,hu⟩:=N' Z i;have az:=gn.at hd;have su:=p3.at hu;have Jo:(A++Z++C)[((i:Int)+(j:Int)).toNat]?=some u:=W9 O' hu;obtain⟨pr,tv⟩:∃pr,pr=c+q*d:=⟨_,rfl⟩;obtain⟨m1,m2,m3⟩:=To r1 az p4 (show pr=q*d+c by omega);have xn:W[i]?=some u:=by
   have e1:(Z.drop i)[0]?=(W.drop i)[0]? := by rw[p6]
   simpa [hu]using e1.symm
  have dm:∀w,(Z.set i w).drop (i+1)=W.drop (i+1):=λw=>by
   rw[rb O'];have e1:(Z.drop i).drop 1=(W.drop i).drop 1:=by rw[p6]
   simpa using e1
  have o4:∀have' take w dc,take=pr%4294967296+b->((have'=u/\dc=0/\take<=u)\/(have'=u+4294967296/\dc=1/\u<take))->w+take=have'->val ((Z.set i w).take (i+1))+q*val (y.take (i+1))=val (W.take (i+1))+4294967296^(i+1)*(pr/4294967296+dc):=λhave' take w dc a1 a2 a3=>by
   rw[HD O',EB hd,EB xn,Ha];exact AlR p7 tv a1 a2 a3
  by_cases hlt:u<pr%4294967296+b
  ·have h3:=o4 (u+4294967296) (pr%4294967296+b) (u+4294967296-(pr%4294967296+b)) 1 rfl (Or.inr ⟨rfl,rfl,hlt⟩) O'
   repeat' (first|apply AG<;>intro hc<;>try omega|apply A2;omega|apply AR;omega|apply HH;omega|apply QG;omega|apply uA;omega|(apply KL;omega;omega)|apply GD|apply dF;omega|apply B1;omega|apply EP;omega|refine A3 V' ?_ rfl ?_;omega|refine LN V' ?_|apply AE)<;>conv=>whnf
   rw[<-tv];skip
   refine OC i O' O' ?_;conv=>whnf
   repeat' (first|apply AR;omega|fail)<;>conv=>whnf
   exact A9 [] E' (ih (i+1) (Z.set i (u+4294967296-(pr%4294967296+b))) (pr/4294967296) 1 O' ⟨O',by simpa using p2,p3.set _ O',m1,O',dm _,h3⟩)
  ·have h3:=o4 u (pr%4294967296+b) (u-(pr%4294967296+b)) 0 rfl (Or.inl ⟨rfl,rfl,O'⟩) O'
   repeat' (first|apply AG<;>intro hc<;>try omega|apply A2;omega|apply AR;omega|apply HH;omega|apply QG;omega|apply uA;omega|(apply KL;omega;omega)|apply GD|apply B1;omega|apply EP;omega|refine A3 V' ?_ rfl ?_;omega|refine LN V' ?_|apply AE)<;>conv=>whnf
   rw[<-tv];skip
   refine OC i O' O' ?_;conv=>whnf
   repeat' (first|apply AR;omega|fail)<;>conv=>whnf
   exact A9 [] E' (ih (i+1) (Z.set i (u-(pr%4294967296+b))) (pr/4294967296) 0 O' ⟨O',by simpa using p2,p3.set _ O',m1,O',dm _,h3⟩)
 ·obtain rfl:i=y.length:=O'
  clear ih;obtain⟨u,hu⟩:=N' Z y.length;have su:=p3.at hu;have Jo:(A++Z++C)[((j:Int)+(y.length:Int)).toNat]?=some u:=W9 O' hu;have xn:W[y.length]?=some u:=by
   have e1:(Z.drop y.length)[0]?=(W.drop y.length)[0]? := by rw[p6]
   simpa [hu]using e1.symm
  rw[C8 (ea y.length)]at p7;have eW:val W=val (W.take y.length)+4294967296^y.length*u:=by
   rw[<-EB xn,C8 O']
  have o4:∀have' take w dc,take=c+b->((have'=u/\dc=0/\take<=u)\/(have'=u+4294967296/\dc=1/\u<take))->w+take=have'->val (Z.set y.length w)+q*val y=val W+4294967296^y.length*4294967296*dc:=λhave' take w dc a1 a2 a3=>by
   have h1:=AlP p7 a1 a2 a3;rw[<-eW,<-HD (show y.length<Z.length by omega),C8 K']at h1;exact h1
  by_cases hlt:u<c+b
  ·have h3:=o4 (u+4294967296) (c+b) (u+4294967296-(c+b)) 1 rfl (Or.inr ⟨rfl,rfl,hlt⟩) O'
   have Fj:A1 (Z.set y.length (u+4294967296-(c+b))):=p3.set _ O';have Dc:(Z.set y.length (u+4294967296-(c+b))).length=y.length+1:=by simpa using p2
   rw[Cd]at h3;have Da:=FM Fj;rw[Dc,Ha]at Da;obtain⟨y1,y2,y3⟩:=wP bn r3 Da h3;repeat' (first|apply AG<;>intro hc<;>try omega|apply A2;omega|apply AR;omega|apply HH;omega|(apply KL;omega;omega)|apply dF;omega|apply B1;omega|apply EP;omega|refine LN V' ?_|apply AE)<;>conv=>whnf
   refine OC y.length O' O' ?_;conv=>whnf
   repeat' (first|apply AG<;>intro hc<;>try omega|(apply KL;omega;omega))<;>conv=>whnf
   clear p7 p6 eW hu xn su Jo p2 p3 o4;generalize Z.set y.length (u+4294967296-(c+b))=X at*;have hRV:val W%val y<val y:=da _ bn;have Bf:=FM gn;obtain⟨xw,Cr⟩:=N' X y.length;have eX:val X=val (X.take y.length)+4294967296^y.length*xw:=by
    rw[<-EB Cr,C8 O']
   have wv:q-1<4294967296:=O'
   refine FP (λi _ _=>y.length-i) (λ(i:Nat)(Z:u_)(c:Nat)=>i<=y.length/\Z.length=y.length+1/\A1 Z/\c<=1/\Z.drop i=X.drop i/\val (Z.take i)+4294967296^i*c=val (X.take i)+val (y.take i)) (λi Z c=>[(26,.int .i64 i),(25,.int .u64 (c:Int))]) (λi Z c=>[(69,101021,.rw 1 ((A++Z++C).map AJ))]) 0 X 0 ⟨O',Dc,Fj,O',rfl,by simp[val]⟩ ?_;intro i Z c ⟨p1,p2,p3,p4,p6,p7⟩ ih;by_cases hi:i<y.length
   ·obtain⟨d,hd⟩:=N' y i hi
    obtain⟨u,hu⟩:=N' Z i;have az:=gn.at hd;have su:=p3.at hu;have Jo:(A++Z++C)[((i:Int)+(j:Int)).toNat]?=some u:=W9 O' hu;have mr:X[i]?=some u:=by
     have e1:(Z.drop i)[0]?=(X.drop i)[0]? := by rw[p6]
     simpa [hu]using e1.symm
    have xq:=uN (d:=d) (w:=u) (t:=c+(u+d)) p7 O';repeat' (first|apply AG<;>intro hc<;>try omega|apply A2;omega|apply AR;omega|apply HH;omega|apply B1;omega|apply GV|refine A3 V' ?_ rfl ?_;omega|refine LN V' ?_|apply AE)<;>conv=>whnf
    generalize ht2:c+(u+d)=t2 at*;refine OC i O' O' ?_;conv=>whnf
    repeat' (first|apply AR;omega|apply GD)<;>conv=>whnf
    refine A9 [] E' (ih (i+1) (Z.set i (t2%4294967296)) (t2/4294967296) O' ⟨O',by simpa using p2,p3.set _ O',O',?_,?_⟩)
    ·rw[rb O']
     have e1:(Z.drop i).drop 1=(X.drop i).drop 1:=by rw[p6]
     simpa using e1
    ·rw[HD O',EB hd,EB mr,Ha]
     exact xq
   ·obtain rfl:i=y.length:=O'
    clear ih;obtain⟨u,hu⟩:=N' Z y.length;have su:=p3.at hu;have Jo:(A++Z++C)[((j:Int)+(y.length:Int)).toNat]?=some u:=W9 O' hu;have mr:X[y.length]?=some u:=by
     have e1:(Z.drop y.length)[0]?=(X.drop y.length)[0]? := by rw[p6]
     simpa [hu]using e1.symm
    rw[mr]at Cr;obtain rfl:u=xw:=by simpa using Cr
    rw[C8 (ea y.length)]at p7;have Fk:=FM (p3.take y.length);rw[oa,fc O']at Fk;rw[eX]at y3;have qe:=uM p7 y3 O' Fk;rw[<-HD (show y.length<Z.length by omega),C8 K']at qe;repeat' (first|apply AG<;>intro hc<;>try omega|apply A2;omega|apply AR;omega|apply tZ|apply EP;omega|refine LN V' ?_|apply AE)<;>conv=>whnf
    refine OC y.length O' O' ?_;conv=>whnf
    repeat' (first|apply A2;omega|apply EP;omega)<;>conv=>whnf
    refine F4 O' ?_;conv=>whnf
    repeat' (first|apply BP;omega|fail)<;>conv=>whnf
    exact A9 [] E' (hk _ _ (by simpa using p2) (p3.set _ O') qe y1)
  ·have h3:=o4 u (c+b) (u-(c+b)) 0 rfl (Or.inl ⟨rfl,rfl,O'⟩) O'
   rw[Lb,La]at h3;obtain⟨y1,y2⟩:=wR bn r2 h3;repeat' (first|apply AG<;>intro hc<;>try omega|apply A2;omega|apply AR;omega|apply HH;omega|(apply KL;omega;omega)|apply B1;omega|apply EP;omega|refine LN V' ?_|apply AE)<;>conv=>whnf
   refine OC y.length O' O' ?_;conv=>whnf
   repeat' (first|apply AG<;>intro hc<;>try omega|apply A2;omega|apply EP;omega)<;>conv=>whnf
   refine F4 O' ?_;conv=>whnf
   repeat' (first|apply BP;omega|fail)<;>conv=>whnf
   exact A9 [] E' (hk _ _ (by simpa using p2) (p3.set _ O') y2 y1)
theorem Ahp(hA:A.length=j)(hW:W.length=y.length+1)(D2:A1 W)(gn:A1 y)(iv:2<=y.length)(vu:y.length<=549755813888)(bn:0<val y)(eh:j<=1099511627776)
  (n2:4294967296^(y.length-1)*2147483648<=val y) (g2:val W<4294967296*val y) (oz:ul=j+(y.length+1)+C.length) (Ju:w.length=m) (Ji:j<m)
  (hk:∀(W':u_)(q':Nat),W'.length=y.length+1->A1 W'->val W'=val W%val y->q'=val W/val y->AA L eU (fD y s ul m ((j:Int)-1)) [(69,101021,.rw 1 ((A++W'++C).map AJ)),(85,85,.rw 1 ((w.set j q').map AJ))] Q) :
  AA L (.code D6.l2::eU) (fD y s ul m (j:Int)) [(69,101021,.rw 1 ((A++W++C).map AJ)),(85,85,.rw 1 (w.map AJ))] Q:=by
 obtain⟨UL,a1,a2⟩:=kE D2 (n:=y.length+1) O' O';obtain⟨VL,b5,b6⟩:=Yl gn (n:=y.length) iv O';obtain⟨u0,w0⟩:=N' W y.length;obtain⟨u1,w1⟩:=N' W (y.length-1);obtain⟨u2,w2⟩:=N' W (y.length-2);obtain⟨f1,x1⟩:=N' y (y.length-1);obtain⟨f2,x2⟩:=N' y (y.length-2);rw[show y.length+1-3=y.length-2 by omega,show y.length+1-2=y.length-1 by omega,show y.length+1-1=y.length by omega,H7 w0,H7 w1,H7 w2]at a2;rw[show y.length+1-3=y.length-2 by omega]at a1;rw[H7 x1,H7 x2]at b6;have tp:=Ye gn (k:=y.length-1) O' n2 x1;have k0:=D2.at w0;have k1:=D2.at w1;have k2:=D2.at w2;have k3:=gn.at x1;have k4:=gn.at x2;have z1:y[((y.length:Int)-1).toNat]?=some f1:=by rw[show((y.length:Int)-1).toNat=y.length-1 by omega];exact x1
 have z2:y[((y.length:Int)-2).toNat]?=some f2:=by rw[show((y.length:Int)-2).toNat=y.length-2 by omega];exact x2
 have rh:(A++W++C)[((j:Int)+(y.length:Int)).toNat]?=some u0:=W9 O' w0;repeat' (first|apply AG<;>intro hc<;>try omega|apply A2;omega|apply AR;omega|apply BP;omega|apply OA;omega|apply B1;omega|refine LN V' ?_|apply AE)<;>conv=>whnf
 have fo:(A++W++C)[((j:Int)+(y.length:Int)-1).toNat]?=some u1:=W9 O' w1;refine Ae4 fo ?_;conv=>whnf
 refine tO O' ?_;conv=>whnf
 refine QH O' ?_;conv=>whnf
 clear rh fo;have dd:(A++W++C)[((j:Int)+(y.length:Int)-2).toNat]?=some u2:=W9 O' w2;generalize Oo:u0*4294967296+u1=top at*;have Hg:top<=18446744073709551615:=O'
 have hU:val W=UL+4294967296^(y.length-2)*(u2+4294967296*top):=by rw[a2,show u1+4294967296*u0=top by omega]
 repeat' (first|apply BP;omega|apply ZR;omega|(apply dH;omega;omega)|apply B1;omega|refine A3 V' ?_ rfl ?_;omega)<;>conv=>whnf
 refine ZI (λq _=>q) (λ(q r:Nat)=>Gs (val W) (val y) f1 f2 u2 top q r) (λq r=>[(16,.int .u64 (q:Int)),(17,.int .u64 (r:Int))]) (λ_ _=>[]) [] [] (top/f1) (top%f1) E' (Gs.start hU b6 a1 k2 bn O' k3) ?_;intro q r g gi;have Ns:q<=top:=by
  have h3:=g.hq;have h4:q*1<=q*f1:=mb q O';omega
 have hr:=g.hr;have ic:=g.ge;by_cases hb:4294967296<=q
 ·obtain⟨y1,y2,y3⟩:=g.next hU b6 a1 bn g2 (Or.inl hb)
  repeat' (first|apply AG<;>intro hc<;>try omega|apply BP;omega|apply HH;omega|(apply KL;omega;omega)|apply B1;omega|refine A3 V' ?_ rfl ?_;omega|apply AE)<;>conv=>whnf
  ·obtain⟨t1,t2⟩:=YF hU b6 b5 tp k4 g2 y2 (Or.inr O')
   exact A9 [] E' (mB (w:=w) (C:=C) hA hW D2 gn iv vu bn eh oz Ju Ji t1 y3 t2 hk)
  ·exact A9 [] E' (gi (q-1) (r+f1) O' ⟨y2,O',y3⟩)
 ·have hmq:=YR (show q<4294967296 by omega) k4
  by_cases v8:r*4294967296+u2<q*f2
  ·obtain⟨y1,y2,y3⟩:=g.next hU b6 a1 bn g2 (Or.inr v8)
   repeat' (first|apply AG<;>intro hc<;>try omega|apply A2;omega|apply AR;omega|apply BP;omega|apply HH;omega|apply QG;omega|apply OA;omega|apply QH;omega|(apply KL;omega;omega)|apply B1;omega|refine A3 V' ?_ rfl ?_;omega|refine LN V' ?_|apply AE)<;>conv=>whnf
   ·obtain⟨t1,t2⟩:=YF hU b6 b5 tp k4 g2 y2 (Or.inr O')
    exact A9 [] E' (mB (w:=w) (C:=C) hA hW D2 gn iv vu bn eh oz Ju Ji t1 y3 t2 hk)
   ·exact A9 [] E' (gi (q-1) (r+f1) O' ⟨y2,O',y3⟩)
  ·obtain⟨t1,t2⟩:=YF hU b6 b5 tp k4 g2 g.hq (Or.inl ⟨O',O'⟩)
   repeat' (first|apply AG<;>intro hc<;>try omega|apply A2;omega|apply AR;omega|apply BP;omega|apply QG;omega|apply OA;omega|apply QH;omega|apply B1;omega|refine A3 V' ?_ rfl ?_;omega|refine LN V' ?_|apply AE)<;>conv=>whnf
   exact A9 [] E' (mB (w:=w) (C:=C) hA hW D2 gn iv vu bn eh oz Ju Ji t1 ic t2 hk)
end
theorem An9{l:u_}(hD:A1 l)(h:l[l.length-1]?=some 0):val l<4294967296^(l.length-1):=by
 have hl:=(zS h).1;have h1:=LH l (l.length-1) O';have h2:=IU h;rw[Ma (show l.length<=l.length-1+1 by omega),KH]at h2;rw[h2]at h1;simp only[Lb,La]at h1;have h3:=FM (hD.take (l.length-1));rw[oa,fc O']at h3;omega
theorem wV(N:b7 L){X Y s:Nat}{x u y:u_}(hY:Y≠0)(fb:s<=31)(Iv:A1 u)(Ix:val u=X*2^s)(hU0:u[u.length-1]?=some 0)(oz:x.length+1<=u.length/\u.length<=549755813888)(gn:A1 y)(Iy:val y=Y*2^s)(kv:2<=y.length/\y.length<=x.length)(n2:4294967296^(y.length-1)*2147483648<=val y) :
  AA L Ahn [(10,.row 69 0 1 0 u.length),(11,.sl false (y.map AJ)),(9,.int .i64 (s:Int)),(0,.sl false (x.map AJ))] [(69,101021,.rw 1 (u.map AJ))] (QK D6 (.j4 [.sl false ((dg (X/Y)).map AJ),.sl false ((dg (X%Y)).map AJ),.int .i64 0])):=by
 refine C0 (λ(_:Nat)=>0) (λ_=>True) (λ_=>[]) (λ_=>[]) 0 trivial ?_;intro _ _ _;repeat' (first|apply AG<;>intro hc<;>try omega|apply AR;omega|apply BP;omega|apply AP|apply AE)<;>conv=>whnf
 refine E6 (enc:=AJ) 0 (u.length-y.length) (by rfl) O' O' ?_;conv=>whnf
 repeat' (first|apply BP;omega|fail)<;>conv=>whnf
 have bn:0<val y:=by
  have:=Ww (y.length-1)
  omega
 have Bg:=FM gn;generalize hm:u.length-y.length=m at*;have lj:val (u.drop m)<val y:=by
  have h1:(u.drop m).length=y.length:=by simp;omega
  have h2:=An9 (l:=u.drop m) (Iv.drop _) (by rw[h1,List.getElem?_drop,show m+(y.length-1)=u.length-1 by omega];exact hU0);rw[h1]at h2;omega
 rw[show(u.length:Int)-y.length-1=((m:Nat):Int)-1 by omega];refine FP (λn _ _=>n) (λ(n:Nat)(o w:u_)=>n<=m/\o.length=u.length/\A1 o/\w.length=m/\A1 w/\val (o.drop n)<val y/\X*2^s=val (o.take n)+4294967296^n*(val (w.drop n)*val y+val (o.drop n))) (λn o w=>[(14,.int .i64 ((n:Int)-1))]) (λn o w=>[(69,101021,.rw 1 (o.map AJ)),(85,85,.rw 1 (w.map AJ))]) m u (ga m 0) ⟨O',rfl,Iv,Z',KS _,lj,by rw[<-Ix,Ma (show(ga m 0).length<=m by simp),KH,Pc,db];exact LH u m O'⟩ ?_;intro n o w ⟨p1,p2,p3,p4,p5,p6,p7⟩ ih;rcases n with _|j
 ·clear ih
  rw[ya]at p6;rw[Jd,ya,ya,KH,db,Oe,jc]at p7;have dm:val o=val (o.take y.length):=by
   have h1:=W7 o y.length;rcases te (val (o.drop y.length))with h2|h2
   ·rw[h2,Lb,La]at h1;exact h1
   ·have h3:4294967296^y.length*1<=4294967296^y.length*val (o.drop y.length):=mb _ h2
    omega
  have xp:X/Y=val w/\X%Y=val o/2^s:=by
   obtain⟨z1,z2⟩:=wU (X:=X) (Y:=Y) (nb s);rw[<-z1,<-z2,<-Iy,p7];have e1:(val w*val y+val o)/val y=val w:=by
    rw[Ga,Md bn,tb p6,La]
   have e2:(val w*val y+val o)%val y=val o:=by
    rw[Ga,cd,qb p6]
   rw[e1,e2];exact⟨rfl,rfl⟩
  rw[xp.1,xp.2,dm];have hT:=λq=>HJ N w q p5 O'
  have de:(o.take y.length).length<=549755813888:=by rw[oa];omega
  clear p7 xp lj;rw[<-p4];rcases te s with h0|h0
  ·subst h0
   have hS:=λq=>zF N (o.take y.length) q 0 (p3.take _) de O'
   rw[Oe,Cd]at hS;rw[Oe,He];repeat' (first|apply AG<;>intro hc<;>try omega|(refine CR (λ_=>rfl) rfl ?_ ?_;(first|rfl|simp))|apply AE|refine AD (hT _) ?_)<;>conv=>whnf
   refine IW y.length rfl O' ?_;conv=>whnf
   refine EC.neg O' ?_;conv=>whnf
   refine HQ (enc:=AJ) (λ_=>rfl) O' ?_;conv=>whnf
   rw[ya,sc,show -((0:Nat):Int)=((0:Nat):Int)by omega];(repeat' (refine AD (hS _) ?_<;>conv=>whnf))
   exact AU rfl (eF _ _ _)
  ·have hS:=λq=>Ajg N (o.take y.length) q s (p3.take _) de O'
   repeat' (first|apply AG<;>intro hc<;>try omega|(refine CR (λ_=>rfl) rfl ?_ ?_;(first|rfl|simp))|apply AE|refine AD (hT _) ?_)<;>conv=>whnf
   refine IW y.length rfl O' ?_;conv=>whnf
   refine EC.neg O' ?_;conv=>whnf
   refine HQ (enc:=AJ) (λ_=>rfl) O' ?_;conv=>whnf
   rw[ya,sc];(repeat' (refine AD (hS _) ?_<;>conv=>whnf))
   exact AU rfl (eF _ _ _)
 ·have e3:((j+1:Nat):Int)-1=j:=O'
  rw[e3];obtain⟨A,W,C,hA,hW,rfl⟩:=xM o j (y.length+1) O';obtain⟨g1,g2,g3⟩:=xO hA hW p3 p6 Bg;obtain⟨D1,D2,D3⟩:=wO p3;have wv:val W/val y<4294967296:=(Pb bn).2 g2;have Ls:val W=val W/val y*val y+val W%val y:=by rw[Ga];exact(zc _ _).symm
  have Bh:val W%val y<val y:=da _ bn;have Be:X*2^s=val A+4294967296^j*val W+4294967296^j*4294967296*(val (w.drop (j+1))*val y):=by
   rw[p7,Ie,<-g3,Ha];omega
  have qt:=xN Be Ls;have bj:∀q',q'=val W/val y->val ((w.set j q').drop j)=val W/val y+4294967296*val (w.drop (j+1)):=λq' h=>by
   rw[IU (l:=w.set j q') (d:=q') (by rw[tc O']),rb O',h]
  have hlen:∀W':u_,W'.length=y.length+1->(A++W'++C).length=u.length:=λW' h=>by
   rw[<-p2];simp[h,hW]
  have hl3:u.length=j+(y.length+1)+C.length:=by rw[<-p2];simp[hA,hW];omega
  refine A9 [] E' (Ahp (m:=m) (s:=s) (ul:=u.length) (C:=C) hA hW D2 gn kv.1 O' bn O' n2 g2 hl3 p4 O' (λW' q' z1 z2 z3 z4=>?_));obtain⟨t1,t2⟩:=mL (A:=A) (W:=W') (C:=C) (j:=j) hA g1;refine A9 [] E' (ih j (A++W'++C) (w.set j q') O' ⟨O',hlen W' z1,(D1.append z2).append D3,by simpa using p4,p5.set _ O',O',?_⟩);rw[t1,t2,bj q' z4,z3];exact qt
end Go.Eng

namespace Go.Eng
open F
attribute [local irreducible] AA AF AW AC AX BD CM BS D7 BR A5 C9 GE AB A8 AH pw EC CG
variable {L:Lib}
theorem zD(N:b7 L)(a b:u_)(q1 q2:Bool)(hA:A1 a)(hB:A1 b)(la:a.length<=274877906944)(lb:b.length<=274877906944)(h0:val b≠0) :
  Ev L 109 [.sl q1 (a.map AJ),.sl q2 (b.map AJ)] (.j4 [.sl false ((dg (val a/val b)).map AJ),.sl false ((dg (val a%val b)).map AJ),.int .i64 0]):=by
 have t1:=λq=>HJ N a q hA O'
 have t2:=λq=>HJ N b q hB O'
 have l1:=FA hA;have l2:=FA hB;have hcmp:=λq q'=>nA N (dg (val a)) (dg (val b)) q q' (DX _) (DX _) O' O'
 rw[BN,BN]at hcmp;generalize val a=X at*;generalize val b=Y at*;have d1:=DX X;have d2:=DX Y;have v1:=BN X;have v2:=BN Y;have hy1:=aD h0;refine Ev.x N.D6 rfl rfl ?_;by_cases h1:(dg Y).length=1
 ·obtain⟨y0,qj⟩:∃y0,dg Y=[y0]:=xc.1 h1
  have sz:Y=y0:=by rw[<-v2,qj];simp[val]
  subst sz;have Dw:Y<4294967296:=d2 Y (by rw[qj];simp);have hyg:(dg Y)[(0:Int).toNat]?=some Y:=by rw[qj];rfl
  have gd:=λq=>Ajh N (dg X) Y q d1 O' h0 Dw
  rw[v1]at gd;have ri:X%Y<4294967296:=Nat.lt_trans (da _ O') Dw;have hT3:=λq=>HJ N [X%Y] q (II ri) Z'
  rw[show val [X%Y]=X%Y by simp[val]]at hT3;clear qj v2;generalize dg Y=y at*;repeat' (first|apply AG<;>intro hc<;>try omega|apply AP|refine A3 V' ?_ rfl ?_;omega|refine JF rfl ?_|apply AE|refine AD (t1 _) ?_|refine AD (t2 _) ?_|refine AD (gd _) ?_|refine AD (hT3 _) ?_)<;>conv=>whnf
  exact AU rfl (eF _ _ _)
 by_cases hlt:X<Y
 ·rw[<-J2 O']at hcmp
  repeat' (first|apply AG<;>intro hc<;>try omega|apply AP|apply AE|refine AD (t1 _) ?_|refine AD (t2 _) ?_|refine AD (hcmp _ _) ?_)<;>conv=>whnf
  refine AU ?_ (eF _ _ _);rw[tb hlt,qb hlt,FJ];rfl
 have ic:=eG (show Y<=X by omega);generalize C4 X Y=cm at*;have Nj:2<=(dg Y).length:=O'
 obtain⟨yt,yw,yx⟩:=lZ h0;have vy:=d2.at yw;obtain⟨b1,b2,b3,b4⟩:=pD yx vy;have kb:=λq=>Ajd N yt q yx vy
 generalize hs:32-u7 yt=s at*;have fb:s<=31:=O'
 have Oh:=λq=>zF N (dg Y) q s d2 O' O'
 obtain⟨n1,n2⟩:=oU d2 yw O' fb b3 b4;rw[v2]at Oh n1 n2;have dm:(dg Y).drop ((dg Y).length-1)=[yt]:=by
  obtain⟨hi,he⟩:=zS yw;rw[List.drop_eq_getElem_cons hi,he,Ma O']
 have kv:(dg (Y*2^s)).length=(dg Y).length:=by
  have a1:=NM.2 n1;have a2:¬(dg (Y*2^s)).length<=(dg Y).length-1:=λh=>by
   have:=NM.1 h
   omega
  omega
 have AAE:(dg (X*2^s)).length<=(dg X).length+1:=by
  refine NM.2 ?_;have a1:X<4294967296^(dg X).length:=NM.1 (ea _);rw[Ha];have a2:=bQ (s:=s) O';exact yc (Oc a1 (nb s)) (mb _ a2)
 have Dc:(dg X).length<=(dg (X*2^s)).length:=R2 (Pf _ (nb s));have sf:=R2 (show Y<=X by omega);generalize hx:dg X=x at*;generalize hy:dg Y=y at*;have t3:=λq=>HJ N x q d1 O'
 rw[v1,hx]at t3;repeat' (first|apply AG<;>intro hc<;>try omega|apply BP;omega|apply AP|apply AE|refine AD (t1 _) ?_|refine AD (t2 _) ?_|refine AD (hcmp _ _) ?_)<;>conv=>whnf
 rw[show(y.length:Int)-1=((y.length-1:Nat):Int)by omega];refine Afm (k:=y.length-1) (λ_=>rfl) O' ?_;conv=>whnf
 rw[dm];repeat' (first|apply BP;omega|refine AD (kb _) ?_)<;>conv=>whnf
 rw[show(32:Int)-(u7 yt:Nat)=((s:Nat):Int)by omega];refine IX 1000 N.JO rfl rfl ?_;have Jq:(s:Int)/32=((0:Nat):Int):=O'
 have hsr:(s:Int)%32=((s:Nat):Int):=O'
 repeat' (first|apply AG<;>intro hc<;>try omega|(refine KM ?_ ?_ (λ_=>?_) (λ_ _=>?_);omega;omega;all_goals try omega)|apply AP|apply AE|refine AD (t3 _) ?_)<;>conv=>whnf
 rw[Jq];refine E6 (enc:=AJ) 0 0 rfl rfl O' ?_;conv=>whnf
 skip
 refine FP (λi _ _=>x.length-i) (λ(i:Nat)(o:u_)(c:Nat)=>i<=x.length/\o.length=i/\A1 o/\c<2^s/\val o+4294967296^i*c=val (x.take i)*2^s) (λi o c=>[(10,.int .i64 i),(9,.int .u64 (c:Int)),(8,.row 107069 0 1 0 i)]) (λi o c=>[(107069,107069,.rw 1 (o.map AJ))]) 0 [] 0 ⟨O',rfl,X4,nb _,by simp[val]⟩ ?_;intro i o c ⟨p1,p2,p3,p4,p5⟩ ih;have oy:=bQ (s:=s) O';by_cases hi:i<x.length
 ·obtain⟨d,hd⟩:=N' x i hi
  have az:=d1.at hd;obtain⟨f1,f2,f3,f4⟩:=WU (s:=s) az O';have hr:=iD (show s<=64 by omega) f4;repeat' (first|apply AG<;>intro hc<;>try omega|(refine IZ ?_ (λ_ _ _=>?_) (λ_ _ _ _=>?_);omega;all_goals try omega)|apply B1;omega|apply AP|refine A3 V' ?_ rfl ?_;omega|apply AE)<;>conv=>whnf
  rw[hsr];refine QJ O' f4 ?_;conv=>whnf
  skip
  refine dG s (xd _ _) p4 O' ?_;conv=>whnf
  have o4:=Yi (d:=d) (P:=1) (V:=val o) (p:=4294967296^i) (lo:=c) (X:=val (x.take i)) (s:=s) (by rw[jc,jc];exact p5) rfl;have ru:(c+d*2^s)/4294967296<2^s:=by
   rw[Pb O'];have:=zR (2^s) (show d<=4294967295 by omega)
   omega
  generalize c+d*2^s=t at*;repeat' (first|apply GV|apply CI)<;>conv=>whnf
  refine C1 (enc:=AJ) (t%4294967296) rfl p2.symm rfl O' O' ?_;conv=>whnf
  repeat' (first|apply AR;omega|apply GD)<;>conv=>whnf
  rw[show(o++[t%4294967296]).length=i+1 by simp[p2]];refine A9 [(107069,107091)] E' (ih (i+1) (o++[t%4294967296]) (t/4294967296) O' ⟨O',by simp;omega,p3.append (II O'),ru,?_⟩);rw[N6,p2,EB hd,Ha];rw[jc,jc]at o4;exact o4
 obtain rfl:i=x.length:=O'
 clear ih;have tk:c<4294967296:=O'
 have hOD:A1 (o++[c]):=p3.append (II tk);have Ex:val (o++[c])=X*2^s:=by
  rw[N6,p2,p5,C8 (ea _),v1]
 have Ew:(o++[c]).length=x.length+1:=by simp[p2]
 repeat' (first|apply AG<;>intro hc<;>try omega|apply EP;omega|apply AP|apply CI|apply AE)<;>conv=>whnf
 refine C1 (enc:=AJ) c rfl p2.symm rfl O' O' ?_;conv=>whnf
 rw[Ew];generalize o++[c]=O at*;rw[<-Ew];clear p3 p4 p5;refine IX 1000 N.JP rfl rfl ?_;(repeat' (apply AE<;>conv=>whnf))
 refine C0 (λn=>n) (λ(n:Nat)=>n<=(O).length/\∀i,n<=i->i<(O).length->(O)[i]?=some 0) (λn=>[(3,.int .i64 n)]) (λ_=>[]) (O).length ⟨ea _,λi h1 h2=>O'⟩ ?_;intro n ⟨p1,p2⟩ ih;rcases n with _|n
 ·repeat' (first|apply AG<;>intro hc<;>try omega|apply AE)<;>conv=>whnf
  refine IW 0 O' O' ?_;conv=>whnf
  have er:=HU (l:=O) V' p1 p2 (Or.inl rfl);have s8:(Nc 0 O).length<=(O).length:=by rw[oa];omega
  clear ih p2;refine dM (enc:=AJ) O' ?_;conv=>whnf
  rw[ya,sc];generalize Cx:Nc 0 O=T0 at*;refine RK (enc:=AJ) (λ_=>rfl) O' O' ?_;conv=>whnf
  refine⟨rfl,_,rfl,?_⟩;conv=>whnf
  (refine⟨rfl,_,rfl,?_⟩;(conv=>whnf);(repeat' (first|apply CI|refine AD (Oh _) ?_)<;>conv=>whnf);refine C1 (enc:=AJ) 0 rfl rfl rfl O' O' ?_;(conv=>whnf);rw[Ex]at er;rw[er];exact A9 [] E' (wV N (x:=x) (X:=X) (Y:=Y) (s:=s) (u:=dg (X*2^s)++[0]) (y:=dg (Y*2^s)) h0 fb ((DX _).append (II O')) (by rw[N6,BN,Lb,La]) Z' K' (DX _) (BN _) O' (by rw[BN,kv];exact n2)))
 ·have e1:((n+1:Nat):Int)-1=n:=O'
  repeat' (first|apply AG<;>intro hc<;>try omega|apply A2;omega|apply BP;omega|refine U6 V' ?_ (λv hv hb=>?_);omega|apply AE)<;>conv=>whnf
  ·rw[e1]
   exact BC [] (ih n O' ⟨O',λi h1 h2=>by
    by_cases h:i=n
    ·subst h
     rw[e1,Aa]at hv;rw[hv];congr 1;omega
    ·exact p2 i O' h2⟩)
  ·refine IW (n+1) O' O' ?_
   (conv=>whnf)
   rw[e1,Aa]at hv;have er:=HU (l:=O) V' p1 p2 (Or.inr ⟨_,hv,O'⟩);have s8:(Nc (n+1) O).length<=(O).length:=by rw[oa];omega
   clear ih p2 hv;(rw[uS (l:=O)];rotate_left;exact rfl;exact rfl);conv=>whnf
   refine dM (enc:=AJ) O' ?_;conv=>whnf
   rw[ya,sc];generalize Cx:Nc (n+1) O=T0 at*;refine RK (enc:=AJ) (λ_=>rfl) O' O' ?_;conv=>whnf
   refine⟨rfl,_,rfl,?_⟩;conv=>whnf
   (refine⟨rfl,_,rfl,?_⟩;(conv=>whnf);(repeat' (first|apply CI|refine AD (Oh _) ?_)<;>conv=>whnf);refine C1 (enc:=AJ) 0 rfl rfl rfl O' O' ?_;(conv=>whnf);rw[Ex]at er;rw[er];exact A9 [] E' (wV N (x:=x) (X:=X) (Y:=Y) (s:=s) (u:=dg (X*2^s)++[0]) (y:=dg (Y*2^s)) h0 fb ((DX _).append (II O')) (by rw[N6,BN,Lb,La]) Z' K' (DX _) (BN _) O' (by rw[BN,kv];exact n2)))
theorem Aje(N:b7 L)(a b:u_)(q1 q2:Bool)(hA:A1 a)(hB:A1 b)(la:a.length<=274877906944)(lb:b.length<=274877906944) :
  Ev L 110 [.sl q1 (a.map AJ),.sl q2 (b.map AJ)] (.sl false ((dg (Pa (val a) (val b))).map AJ)):=by
 have t1:=λq=>HJ N a q hA O'
 have t2:=λq=>HJ N b q hB O'
 have l1:=FA hA;have l2:=FA hB;generalize val a=X at*;generalize val b=Y at*;refine Ev.x N.PI rfl rfl ?_;repeat' (first|apply AE|refine AD (t1 _) ?_|refine AD (t2 _) ?_)<;>conv=>whnf
 refine DT (λ_ y=>y) (λ(x y:Nat)=>(dg x).length<=274877906944/\(dg y).length<=274877906944/\Pa x y=Pa X Y) (λx y=>[(0,.sl false ((dg x).map AJ)),(1,.sl false ((dg y).map AJ))]) (λ_ _=>[]) X Y ⟨O',O',rfl⟩ ?_;intro x y ⟨p1,p2,p3⟩ ih;rw[<-p3];by_cases h0:y=0
 ·subst h0
  have hl0:(dg 0).length=0:=by rw[FJ];rfl
  clear ih;rw[ue];repeat' (first|apply AG<;>intro hc<;>try omega|apply AP|apply AE)<;>conv=>whnf
  exact AU rfl (LR _)
 ·have hp:=aD h0
  have hD:=λq q'=>zD N (dg x) (dg y) q q' (DX _) (DX _) p1 p2 (by rw[BN];exact h0)
  rw[BN,BN]at hD;have hlt:x%y<y:=da _ O';have tu:=R2 (pd hlt);repeat' (first|apply AG<;>intro hc<;>try omega|apply AP|apply AE|refine AD (hD _ _) ?_)<;>conv=>whnf
  rw[p3];exact BC [] (ih y (x%y) hlt ⟨p2,O',by rw[aS];exact p3⟩)
theorem LT(N:b7 L)(n q:Bool)(m:u_)(hm:Sm 274877906944 m):Ev L 111 [.agg (rZ q n m)] (.agg (eZ (zv n m))):=by
 have hT:=λq=>HJ N m q hm.1 (by have:=hm.2;omega)
 have hz:=IH (val m);have ha:=FH n m;refine Ev.x N.T4 rfl rfl ?_;cases n
 ·rw[E4]at*
  repeat' (first|apply AE|refine AD (hT _) ?_)<;>conv=>whnf
  exact AU (E7 ha.symm (FZ O')) (DM _)
 ·rw[N8]at*
  repeat' (first|apply AG<;>intro hc<;>try omega|apply AP|apply AE|refine AD (hT _) ?_)<;>conv=>whnf
  ·exact AU (E7 ha.symm (L3 O')) (DM _)
  ·exact AU (E7 ha.symm (FZ O')) (DM _)
theorem nD(N:b7 L)(n q:Bool)(m:u_)(hm:Sm 274877906944 m):Ev L 113 [.agg (rZ q n m)] (.int .i64 (v7 (zv n m))):=by
 have hT:=λq=>LT N n q m hm
 generalize zv n m=z at*;have hz:=IH z.natAbs;refine Ev.x N.TZ rfl rfl ?_;repeat' (first|apply AG<;>intro hc<;>try omega|apply AP|apply AE|refine AD (hT _) ?_)<;>conv=>whnf
 ·exact BM (jI O')
 ·cases hd:decide (z<0)
  ·(conv=>whnf)
   exact BM (rP (by have:=of_decide_eq_false hd;omega))
  ·(conv=>whnf)
   exact BM (rO (of_decide_eq_true hd))
theorem zI(N:b7 L)(n q:Bool)(m:u_)(hm:Sm 274877906944 m):Ev L 114 [.agg (rZ q n m)] (.agg (eZ (-(zv n m)))):=by
 have hT:=λq=>LT N n q m hm
 generalize zv n m=z at*;have hz:=IH z.natAbs;refine Ev.x N.TW rfl rfl ?_;repeat' (first|apply AE|refine AD (hT _) ?_)<;>conv=>whnf
 cases hd:decide (z<0)
 ·have h1:=of_decide_eq_false hd
  (conv=>whnf)
  repeat' (first|apply AG<;>intro hc<;>try omega|apply AP)<;>conv=>whnf
  ·exact AU (E7 O' (L3 O')) (DM _)
  ·exact AU (E7 O' (FZ O')) (DM _)
 ·have h1:=of_decide_eq_true hd
  (conv=>whnf)
  skip
  exact AU (E7 O' (FZ O')) (DM _)
theorem V4(N:b7 L)(n1 n2 q1 q2:Bool)(a b:u_)(ha:A1 a)(hb:A1 b)(hl:a.length+b.length<=274877906944):Ev L 118 [.agg (rZ q1 n1 a),.agg (rZ q2 n2 b)] (.agg (eZ (zv n1 a*zv n2 b))):=by
 have h1:=λq q'=>Ajf N a b q q' ha hb O'
 have sa:Sm a.length a:=⟨ha,ea _⟩;have sb:Sm b.length b:=⟨hb,ea _⟩;have hT:=λn q=>LT N n q (dg (val a*val b)) ((sa.mul sb rfl).le hl)
 have e:∀n,zv n (dg (val a*val b))=bif n then -((val a*val b:Nat):Int)else((val a*val b:Nat):Int):=λn=>by unfold zv;rw[BN]
 have e2:zv n1 a*zv n2 b=zv (n1 != n2) (dg (val a*val b)):=by
  rw[e];cases n1<;>cases n2<;>simp[E4,N8,ze,Df]
 rw[e2];refine Ev.x N.TV rfl rfl ?_;cases n1<;>cases n2;all_goals
  repeat' (first|apply AE|refine AD (h1 _ _) ?_|refine AD (hT _ _) ?_)<;>conv=>whnf
  exact AU rfl (DM _)
theorem zG(N:b7 L)(n1 n2 q1 q2:Bool)(a b:u_)(ha:Sm 274877906943 a)(hb:Sm 274877906943 b):Ev L 115 [.agg (rZ q1 n1 a),.agg (rZ q2 n2 b)] (.agg (eZ (zv n1 a+zv n2 b))):=by
 have t1:=λq=>LT N n1 q a (ha.le O')
 have t2:=λq=>LT N n2 q b (hb.le O')
 have s1:Sm 274877906943 (dg (zv n1 a).natAbs):=by rw[FH];exact ha.wy
 have s2:Sm 274877906943 (dg (zv n2 b).natAbs):=by rw[FH];exact hb.wy
 generalize zv n1 a=x at*;generalize zv n2 b=y at*;have h1:=λq q'=>zC N (dg x.natAbs) (dg y.natAbs) q q' s1.1 s2.1 (by have:=s1.2;omega) (by have:=s2.2;omega)
 have h2:=λq q'=>nB N (dg x.natAbs) (dg y.natAbs) q q' s1.1 s2.1 (by have:=s1.2;omega) (by have:=s2.2;omega)
 have h3:=λq q'=>nB N (dg y.natAbs) (dg x.natAbs) q q' s2.1 s1.1 (by have:=s2.2;omega) (by have:=s1.2;omega)
 have hcmp:=λq q'=>nA N (dg x.natAbs) (dg y.natAbs) q q' s1.1 s2.1 (by have:=s1.2;omega) (by have:=s2.2;omega)
 rw[BN,BN]at h1 h2 h3 hcmp;have u1:=λn q=>LT N n q (dg (x.natAbs+y.natAbs)) (s1.add s2 (by rw[BN,BN];omega))
 have u2:=λn q=>LT N n q (dg (x.natAbs-y.natAbs)) ((s1.low (V:=x.natAbs-y.natAbs) (by rw[BN];omega)).le O')
 have u3:=λn q=>LT N n q (dg (y.natAbs-x.natAbs)) ((s2.low (V:=y.natAbs-x.natAbs) (by rw[BN];omega)).le O')
 have e:∀n V,zv n (dg V)=bif n then -(V:Int)else(V:Int):=λn V=>by unfold zv;rw[BN]
 refine Ev.x N.TR rfl rfl ?_;repeat' (first|apply AE|refine AD (t1 _) ?_|refine AD (t2 _) ?_)<;>conv=>whnf
 cases hx:decide (x<0)<;>cases hy:decide (y<0)
 ·have g1:=of_decide_eq_false hx
  have g2:=of_decide_eq_false hy;have hz:x+y=zv false (dg (x.natAbs+y.natAbs)):=by rw[e];simp only[cond_true,cond_false];omega
  rw[hz];conv=>whnf
  repeat' (first|refine AD (h1 _ _) ?_|refine AD (u1 _ _) ?_)<;>conv=>whnf
  exact AU rfl (DM _)
 ·have g1:=of_decide_eq_false hx
  have g2:=of_decide_eq_true hy;by_cases hlt:x.natAbs<y.natAbs
  ·have hz:x+y=zv true (dg (y.natAbs-x.natAbs)):=by rw[e];simp only[cond_true,cond_false];omega
   rw[hz];rw[<-J2 O']at hcmp;conv=>whnf
   repeat' (first|apply AG<;>intro hc<;>try omega|refine AD (hcmp _ _) ?_|refine AD (h3 _ _) ?_|refine AD (u3 _ _) ?_)<;>conv=>whnf
   exact AU rfl (DM _)
  ·have hz:x+y=zv false (dg (x.natAbs-y.natAbs)):=by rw[e];simp only[cond_true,cond_false];omega
   rw[hz];have ic:=eG (show y.natAbs<=x.natAbs by omega);generalize C4 (x.natAbs:Nat) (y.natAbs:Nat)=cm at*;conv=>whnf
   repeat' (first|apply AG<;>intro hc<;>try omega|refine AD (hcmp _ _) ?_|refine AD (h2 _ _) ?_|refine AD (u2 _ _) ?_)<;>conv=>whnf
   exact AU rfl (DM _)
 ·have g1:=of_decide_eq_true hx
  have g2:=of_decide_eq_false hy;by_cases hlt:x.natAbs<y.natAbs
  ·have hz:x+y=zv false (dg (y.natAbs-x.natAbs)):=by rw[e];simp only[cond_true,cond_false];omega
   rw[hz];rw[<-J2 O']at hcmp;conv=>whnf
   repeat' (first|apply AG<;>intro hc<;>try omega|refine AD (hcmp _ _) ?_|refine AD (h3 _ _) ?_|refine AD (u3 _ _) ?_)<;>conv=>whnf
   exact AU rfl (DM _)
  ·have hz:x+y=zv true (dg (x.natAbs-y.natAbs)):=by rw[e];simp only[cond_true,cond_false];omega
   rw[hz];have ic:=eG (show y.natAbs<=x.natAbs by omega);generalize C4 (x.natAbs:Nat) (y.natAbs:Nat)=cm at*;conv=>whnf
   repeat' (first|apply AG<;>intro hc<;>try omega|refine AD (hcmp _ _) ?_|refine AD (h2 _ _) ?_|refine AD (u2 _ _) ?_)<;>conv=>whnf
   exact AU rfl (DM _)
 ·have g1:=of_decide_eq_true hx
  have g2:=of_decide_eq_true hy;have hz:x+y=zv true (dg (x.natAbs+y.natAbs)):=by rw[e];simp only[cond_true,cond_false];omega
  rw[hz];conv=>whnf
  repeat' (first|refine AD (h1 _ _) ?_|refine AD (u1 _ _) ?_)<;>conv=>whnf
  exact AU rfl (DM _)
theorem Ajk(N:b7 L)(n1 n2 q1 q2:Bool)(a b:u_)(ha:Sm 274877906943 a)(hb:Sm 274877906943 b):Ev L 116 [.agg (rZ q1 n1 a),.agg (rZ q2 n2 b)] (.agg (eZ (zv n1 a-zv n2 b))):=by
 have t2:=λq=>zI N n2 q b (hb.le O')
 have s2:Sm 274877906943 (dg (-(zv n2 b)).natAbs):=by rw[bg,FH];exact hb.wy
 have h1:=λq q'=>zG N n1 (decide (-(zv n2 b)<0)) q q' a (dg (-(zv n2 b)).natAbs) ha s2
 rw[GK,<-yg]at h1;refine Ev.x N.T3 rfl rfl ?_;repeat' (first|apply AE|refine AD (t2 _) ?_|refine AD (h1 _ _) ?_)<;>conv=>whnf
 exact AU rfl (DM _)
theorem Aji(N:b7 L)(n1 n2 q1 q2:Bool)(a b:u_)(ha:Sm 274877906943 a)(hb:Sm 274877906943 b):Ev L 117 [.agg (rZ q1 n1 a),.agg (rZ q2 n2 b)] (.int .i64 (v7 (zv n1 a-zv n2 b))):=by
 have h1:=λq q'=>Ajk N n1 n2 q q' a b ha hb
 have s1:Sm 274877906943 (dg (zv n1 a).natAbs):=by rw[FH];exact ha.wy
 have s2:Sm 274877906943 (dg (zv n2 b).natAbs):=by rw[FH];exact hb.wy
 have s3:Sm 274877906944 (dg (zv n1 a-zv n2 b).natAbs):=s1.add s2 (by rw[BN,BN];omega);have h2:=λq=>nD N (decide (zv n1 a-zv n2 b<0)) q (dg (zv n1 a-zv n2 b).natAbs) s3
 rw[GK]at h2;refine Ev.x N.TS rfl rfl ?_;repeat' (first|apply AE|refine AD (h1 _ _) ?_|refine AD (h2 _) ?_)<;>conv=>whnf
 exact BM rfl
theorem nC(N:b7 L)(z:Int)(hz:-9223372036854775808<=z/\z<=9223372036854775807):Ev L 112 [.int .i64 z] (.agg (eZ z)):=by
 have two:∀k:Nat,k<18446744073709551616->∀n q,Ev L 111 [.agg [.bool n,.sl q [[.int .u32 ((k%4294967296:Nat):Int)],[.int .u32 ((k/4294967296:Nat):Int)]]]] (.agg (eZ (bif n then -(k:Int)else(k:Int)))):=λk hk n q=>by
  have:=LT N n q [k%4294967296,k/4294967296] ⟨(lW hk).2,Z'⟩
  unfold zv at this;rw[Ym hk]at this;exact this
 refine Ev.x N.TY rfl rfl ?_;by_cases h0:0<=z
 ·obtain⟨k,rfl⟩:=ob h0
  have hT:=two k O';repeat' (first|apply AG<;>intro hc<;>try omega|apply GD|apply B1;omega|apply EP;omega|apply GV|refine ZW rfl rfl ?_|apply AE)<;>conv=>whnf
  generalize k%4294967296=lo at*;generalize k/4294967296=hi at*;(repeat' (refine AD (hT _ _) ?_<;>conv=>whnf))
  exact AU rfl (DM _)
 ·obtain⟨k,hk⟩:=ob (show 0 <= -(z+1)by omega)
  have hz2:z = -((k+1:Nat):Int):=O'
  have hT:=two (k+1) O';repeat' (first|apply AG<;>intro hc<;>try omega|apply AR;omega|apply kO|apply EC.neg;omega|apply B1;omega|apply AE)<;>conv=>whnf
  rw[show IntKind.u64.wrap (-(z+1)+1)=((k+1:Nat):Int)by rw[IntWalk.u64_in _ O'];omega];rw[hz2];generalize k+1=k1 at*;repeat' (first|apply GD|apply EP;omega|apply GV|refine ZW rfl rfl ?_)<;>conv=>whnf
  generalize k1%4294967296=lo at*;generalize k1/4294967296=hi at*;(repeat' (refine AD (hT _ _) ?_<;>conv=>whnf))
  exact AU rfl (DM _)
theorem Ajj(N:b7 L)(n1 n2 q1 q2:Bool)(a b:u_)(ha:Sm 274877906944 a)(hb:Sm 274877906944 b):Ev L 120 [.agg (rZ q1 n1 a),.agg (rZ q2 n2 b)] (.agg (eZ ((Pa (val a) (val b):Nat):Int))):=by
 have h1:=λq q'=>Aje N a b q q' ha.1 hb.1 ha.2 hb.2
 refine Ev.x N.TU rfl rfl ?_;repeat' (first|apply AE|refine AD (h1 _ _) ?_)<;>conv=>whnf
 exact AU (E7 O' (FZ O')) (DM _)
theorem Aif(n1 n2:Bool)(A B:Nat)(hB:B≠0):(bif n1 then -(A:Int)else(A:Int))/(bif n2 then -(B:Int)else(B:Int))=(bif n1 != n2 then -((if n1=true/\A%B≠0 then A/B+1 else A/B:Nat):Int)else((if n1=true/\A%B≠0 then A/B+1 else A/B:Nat):Int)) /\
  (bif n1 then -(A:Int)else(A:Int))%(bif n2 then -(B:Int)else(B:Int))=((if n1=true/\A%B≠0 then B-A%B else A%B:Nat):Int):=by
 have hBp:(0:Int)<B:=O'
 have key:∀x:Int,x/(bif n2 then -(B:Int)else(B:Int))=(bif n2 then -(x/B)else x/B)/\x%(bif n2 then -(B:Int)else(B:Int))=x%B:=λx=>by
  cases n2
  ·exact⟨rfl,rfl⟩
  ·exact⟨Int.ediv_neg x B,Int.emod_neg x B⟩
 rw[(key _).1,(key _).2];cases n1
 ·have h1:((A:Int))/B=((A/B:Nat):Int):=Z'
  have h2:((A:Int))%B=((A%B:Nat):Int):=Z'
  simp only[cond_false,h1,h2];cases n2<;>simp
 ·have hd:=zc A B
  have hlt:=da A (show B>0 by omega);by_cases h0:A%B=0
  ·have e:-(A:Int)=(B:Int)*(-((A/B:Nat):Int)):=by
    rw[h0,La]at hd;rw[ze,<-Hb,hd]
   have h1:-(A:Int)/B = -((A/B:Nat):Int):=by rw[e,Ob _ O']
   have h2:-(A:Int)%B=0:=by rw[e,Int.mul_emod_right]
   simp only[cond_true,h1,h2,h0];cases n2<;>simp
  ·have e:-(A:Int)=(B:Int)*(-((A/B+1:Nat):Int))+((B-A%B:Nat):Int):=by
    have h3:(B:Int)*((A/B:Nat):Int)+((A%B:Nat):Int)=A:=by rw[<-Hb,<-ec,hd]
    rw[ze,ec,Int.mul_add];omega
   have h1:-(A:Int)/B = -((A/B+1:Nat):Int):=by
    rw[e,Int.mul_add_ediv_left _ _ O',Int.ediv_eq_zero_of_lt O' O',Ef]
   have h2:-(A:Int)%B=((B-A%B:Nat):Int):=by
    rw[e,Int.mul_add_emod_self_left,Int.emod_eq_of_lt O' O']
   simp only[cond_true,h1,h2];cases n2<;>simp[h0]
theorem zH(N:b7 L)(n1 n2 q1 q2:Bool)(a b:u_)(ha:Sm 274877906943 a)(hb:Sm 274877906943 b)(h0:zv n2 b≠0):Ev L 119 [.agg (rZ q1 n1 a),.agg (rZ q2 n2 b)] (.j4 [.agg (eZ (zv n1 a/zv n2 b)),.agg (eZ (zv n1 a%zv n2 b)),.int .i64 0]):=by
 have t1:=λq=>LT N n1 q a (ha.le O')
 have t2:=λq=>LT N n2 q b (hb.le O')
 have s1:Sm 274877906943 (dg (zv n1 a).natAbs):=by rw[FH];exact ha.wy
 have s2:Sm 274877906943 (dg (zv n2 b).natAbs):=by rw[FH];exact hb.wy
 generalize zv n1 a=x at*;generalize zv n2 b=y at*;have Cw:=λq q'=>zD N (dg x.natAbs) (dg y.natAbs) q q' s1.1 s2.1 (by have:=s1.2;omega) (by have:=s2.2;omega) (by rw[BN];omega)
 rw[BN,BN]at Cw;obtain⟨e1,e2⟩:=Aif (decide (x<0)) (decide (y<0)) x.natAbs y.natAbs O';have hx:(bif decide (x<0)then -(x.natAbs:Int)else(x.natAbs:Int))=x:=by have:=GK x;unfold zv at this;rw[BN]at this;exact this
 have hy:(bif decide (y<0)then -(y.natAbs:Int)else(y.natAbs:Int))=y:=by have:=GK y;unfold zv at this;rw[BN]at this;exact this
 rw[hx,hy]at e1 e2;rw[e1,e2];have l1:=s1.2;have l2:=s2.2;have hq:Sm 274877906943 (dg (x.natAbs/y.natAbs)):=s1.low (by rw[BN];exact Ae _ _);have hr:Sm 274877906943 (dg (x.natAbs%y.natAbs)):=s2.low (by rw[BN];exact pd (da _ O'));have hrz:=IH (x.natAbs%y.natAbs);have ko:Ev L 103 [.sl false ((dg (x.natAbs/y.natAbs)).map AJ),.sl true [[.int .u32 1]]] (.sl false ((dg (x.natAbs/y.natAbs+1)).map AJ)):=by
  have:=zC N (dg (x.natAbs/y.natAbs)) [1] false true (DX _) (II O') (by have:=hq.2;omega) Z'
  rw[BN,show val [1]=1 from rfl]at this;exact this
 have wu:Sm 274877906944 (dg (x.natAbs/y.natAbs+1)):=hq.add (b:=[1]) (rS O' O') (by rw[BN];simp[val]);have Hf:=λq q'=>nB N (dg y.natAbs) (dg (x.natAbs%y.natAbs)) q q' s2.1 hr.1 O' (by have:=hr.2;omega)
 rw[BN,BN]at Hf;have u1:=λn q=>LT N n q (dg (x.natAbs/y.natAbs)) (hq.le O')
 have u2:=λn q=>LT N n q (dg (x.natAbs/y.natAbs+1)) wu
 have ez:∀n V,zv n (dg V)=bif n then -(V:Int)else(V:Int):=λn V=>by unfold zv;rw[BN]
 have fin:∀(z:Int)(V:Nat),AH (.j4 [.agg (eZ z),.agg [.bool false,.sl false ((dg V).map AJ)],.int .i64 0]) (.j4 [.agg (eZ z),.agg (eZ (V:Int)),.int .i64 0]):=λz V=>by
  have e3:AV.agg (eZ (V:Int)) = .agg [.bool false,.sl false ((dg V).map AJ)]:=(E7 O' (FZ O')).symm;rw[e3];refine AU rfl ?_;simp only[AY,BI,and_true,true_and];exact⟨CS _,CS _⟩
 clear e1 e2 hx hy;generalize x.natAbs/y.natAbs=qq at*;generalize x.natAbs%y.natAbs=rr at*;refine Ev.x N.TT rfl rfl ?_;repeat' (first|apply AG<;>intro hc<;>try omega|apply AE|refine AD (t1 _) ?_|refine AD (t2 _) ?_|refine AD (Cw _ _) ?_)<;>conv=>whnf
 generalize decide (x<0)=p at*;generalize decide (y<0)=r at*;cases p
 ·rw[if_neg Z',if_neg Z',<-ez]
  cases r;all_goals
   (conv=>whnf)
   (repeat' (refine AD (u1 _ _) ?_<;>conv=>whnf))
   exact fin _ _
 ·by_cases rh:rr=0
  ·rw[if_neg (by simp[rh]),if_neg (by simp[rh]),<-ez]
   cases r;all_goals
    (conv=>whnf)
    repeat' (first|apply AG<;>intro hc<;>try omega|apply AP|refine AD (u1 _ _) ?_)<;>conv=>whnf
    exact fin _ _
  ·rw[if_pos ⟨rfl,rh⟩,if_pos ⟨rfl,rh⟩,<-ez]
   cases r;all_goals
    (conv=>whnf)
    repeat' (first|apply AG<;>intro hc<;>try omega|apply AP|refine JF rfl ?_|refine AD (ko) ?_|refine AD (Hf _ _) ?_|refine AD (u2 _ _) ?_)<;>conv=>whnf
    exact fin _ _
theorem wN:dg 1=[1]:=by rw[KR O'];simp[FJ]
theorem uQ:AV.agg [.bool false,.sl false [],.sl false [[.int .u32 1]]] = .agg (eQ 0):=by
 show _=AV.agg (rQ _ _ _ _ _);rw[Rat.zero_num,Rat.zero_den,wN,show(0:Int).natAbs=0 from rfl,FJ];rfl
theorem Ahj{x y:Int}(hy:y≠0):(Mc x y).num=(if y<0 then -(x/((Pa x.natAbs y.natAbs:Nat):Int))else x/((Pa x.natAbs y.natAbs:Nat):Int))/\(Mc x y).den=(y/((Pa x.natAbs y.natAbs:Nat):Int)).natAbs:=by
 have h1:=Rat.num_divInt x y;have h2:=Rat.den_divInt x y;rw[if_neg hy]at h2;have hg:Eg y x=Pa x.natAbs y.natAbs:=by rw[Eg,Jf]
 rw[hg]at h1 h2;have Mw:0<Pa x.natAbs y.natAbs:=gf _ O';have dx:((Pa x.natAbs y.natAbs:Nat):Int) ∣ x:=xg.2 (Nat.gcd_dvd_left _ _);have dy:((Pa x.natAbs y.natAbs:Nat):Int) ∣ y:=xg.2 (Nat.gcd_dvd_right _ _);generalize Pa x.natAbs y.natAbs=g at*;rw[h1,h2];obtain⟨u,rfl⟩:=dx;obtain⟨v,rfl⟩:=dy;have Bu:(g:Int)≠0:=O'
 refine⟨?_,?_⟩
 ·rw[Ob _ Bu]
  split
  ·rename_i h
   rw[pf h,show -1*((g:Int)*u)=g*(-u)by rw[ze];omega,Ob _ Bu]
  ·rw[kd O',De,Ob _ Bu]
 ·rw[Ob _ Bu,Eb,Jc,Nat.mul_div_cancel_left _ Mw]
theorem fU(N:b7 L)(n1 n2 q1 q2:Bool)(a b:u_)(ha:Sm 274877906943 a)(hb:Sm 274877906943 b):Ev L 121 [.agg (rZ q1 n1 a),.agg (rZ q2 n2 b)] (.agg (eQ (Mc (zv n1 a) (zv n2 b)))):=by
 have t1:=λq=>nD N n1 q a (ha.le O')
 have t2:=λq=>nD N n2 q b (hb.le O')
 by_cases h1:zv n1 a=0
 ·rw[h1,Rat.zero_divInt,<-uQ]
  rw[h1,<-jI rfl]at t1;refine Ev.x N.NC rfl rfl ?_;repeat' (first|apply AG<;>intro hc<;>try omega|refine JF rfl ?_|apply AE|refine AD (t1 _) ?_)<;>conv=>whnf
  exact AU rfl (eB false [] [1])
 have s1:v7 (zv n1 a)≠0:=by unfold v7;split<;>(try split)<;>omega
 by_cases h2:zv n2 b=0
 ·rw[h2,Rat.divInt_zero,<-uQ]
  rw[h2,<-jI rfl]at t2;generalize v7 (zv n1 a)=sg at*;refine Ev.x N.NC rfl rfl ?_;repeat' (first|apply AG<;>intro hc<;>try omega|refine JF rfl ?_|apply AE|refine AD (t1 _) ?_|refine AD (t2 _) ?_)<;>conv=>whnf
  exact AU rfl (eB false [] [1])
 have s2:v7 (zv n2 b)≠0:=by unfold v7;split<;>(try split)<;>omega
 obtain⟨p1,p2⟩:=Ahj (x:=zv n1 a) h2;have hG:=λq q'=>Ajj N n1 n2 q q' a b (ha.le O') (hb.le O')
 have hle:Pa (val a) (val b)<=val b:=Nat.gcd_le_right _ (by have:=FH n2 b;omega);have Mw:0<Pa (val a) (val b):=gf _ (by have:=FH n2 b;omega);have sg:Sm 274877906943 (dg (Pa (val a) (val b))):=hb.low hle;rw[FH,FH]at p1 p2;have hgf:decide (((Pa (val a) (val b):Nat):Int)<0)=false:=Z'
 have sg':Sm 274877906943 (dg (((Pa (val a) (val b):Nat):Int)).natAbs):=by rw[Jc];exact sg
 have zg:zv (decide (((Pa (val a) (val b):Nat):Int)<0)) (dg (((Pa (val a) (val b):Nat):Int)).natAbs)=((Pa (val a) (val b):Nat):Int):=GK _;have Az:=λq q'=>zH N n1 _ q q' a _ ha sg' (by rw[zg];omega)
 have Ba:=λq q'=>zH N n2 _ q q' b _ hb sg' (by rw[zg];omega)
 rw[zg]at Az Ba;have vg:Sm 274877906943 (dg (zv n1 a/((Pa (val a) (val b):Nat):Int)).natAbs):=ha.low (by
  have:(zv n1 a/((Pa (val a) (val b):Nat):Int)).natAbs<=(zv n1 a).natAbs:=Int.natAbs_ediv_le_natAbs _ _
  rw[FH]at this;exact this)
 have Bu:0<((Pa (val a) (val b):Nat):Int):=O'
 generalize ((Pa (val a) (val b):Nat):Int)=g at*;generalize zv n1 a=x at*;generalize zv n2 b=y at*;generalize v7 x=sx at*;generalize v7 y=sy at*;have hN:=λq=>zI N (decide (x/g<0)) q (dg (x/g).natAbs) (vg.le O')
 rw[GK]at hN;have Jw:decide (y/g<0)=decide (y<0):=by
  congr 1;rw[eq_iff_iff,Int.ediv_lt_iff_lt_mul O',Int.zero_mul]
 refine Ev.x N.NC rfl rfl ?_;repeat' (first|apply AG<;>intro hc<;>try omega|apply AE|refine AD (t1 _) ?_|refine AD (t2 _) ?_|refine AD (hG _ _) ?_|refine AD (Az _ _) ?_|refine AD (Ba _ _) ?_)<;>conv=>whnf
 cases hyn:decide (y/g<0)
 ·rw[hyn]at Jw
  rw[if_neg (of_decide_eq_false Jw.symm)]at p1;conv=>whnf
  skip
  refine AU ?_ (DG _);show _=AV.agg (rQ _ _ _ _ _);rw[p1,p2]
 ·rw[hyn]at Jw
  rw[if_pos (of_decide_eq_true Jw.symm)]at p1;conv=>whnf
  (repeat' (refine AD (hN _) ?_<;>conv=>whnf))
  refine AU ?_ (DG _);show _=AV.agg (rQ _ _ _ _ _);rw[p1,p2]
theorem Ahl{z:Int}{d:u_}:Mc z (zv false d)=mkRat z (val d):=by rw[E4,kc]
def Aff(n:Bool)(m d:u_)(n':Bool)(m' d':u_)(k:Nat):Prop:=Sm k m'/\Sm k d'/\val d'≠0/\qv n m d=mkRat (zv n' m') (val d')
theorem vM(n:Bool)(m d:u_):AY (.j4 [.agg (rZ false n m),.agg (rZ false false d)]):=by
 simp only[AY,BI,and_true,true_and];exact⟨CS _,CS _⟩
theorem V3(N:b7 L)(n q:Bool)(m d:u_)(k:Nat)(hk:1<=k/\k<=274877906943)(hm:Sm k m)(hd:Sm k d):∃n' m' d',Ev L 122 [.agg (rQ false q n m d)] (.j4 [.agg (rZ false n' m'),.agg (rZ false false d')])/\Aff n m d n' m' d' k:=by
 have t1:=λq=>HJ N d q hd.1 (by have:=hd.2;omega)
 have hl:=IH (val d);by_cases h0:val d=0
 ·refine⟨false,[],[1],?_,Uz _,rS hk.1 O',Y',by unfold qv;rw[h0,fg,Zt,gg]⟩
  refine Ev.x N.PK rfl rfl ?_;repeat' (first|apply AG<;>intro hc<;>try omega|apply AP|refine JF rfl ?_|apply AE|refine AD (t1 _) ?_)<;>conv=>whnf
  exact AU rfl (vM false [] [1])
 ·refine⟨n,m,dg (val d),?_,hm,hd.wy,by rw[BN];exact h0,by rw[BN];rfl⟩
  refine Ev.x N.PK rfl rfl ?_;repeat' (first|apply AG<;>intro hc<;>try omega|apply AP|apply AE|refine AD (t1 _) ?_)<;>conv=>whnf
  exact AU rfl (vM _ _ _)
theorem Ajo(N:b7 L)(n q:Bool)(m d:u_)(hm:Sm 274877906943 m)(hd:Sm 274877906943 d){q0:Bool}:Ev L 123 [.agg (rQ q0 q n m d)] (.agg (eQ (qv n m d))):=by
 obtain⟨n',m',d',hp,s1,s2,s3,s4⟩:=V3 N n false m d 274877906943 O' hm hd;have hr:=λq q'=>fU N n' false q q' m' d' s1 s2
 rw[Ahl,<-s4]at hr;refine Ev.x N.UB rfl rfl ?_;repeat' (first|apply dB|apply AE|refine AD (hp) ?_|refine AD (hr _ _) ?_)<;>conv=>whnf
 exact AU rfl (DG _)
theorem Af1(z:Int):AV.agg [.bool (decide (z<0)),.sl false ((dg z.natAbs).map AJ),.sl false [[.int .u32 1]]] = .agg (eQ (z:Rat)):=by
 show _=AV.agg (rQ _ _ _ _ _);rw[qg,ng,wN];rfl
theorem NQ(N:b7 L)(z:Int)(hz:-9223372036854775808<=z/\z<=9223372036854775807):Ev L 124 [.int .i64 z] (.agg (eQ (z:Rat))):=by
 have h1:=nC N z hz;refine Ev.x N.UA rfl rfl ?_;repeat' (first|refine JF rfl ?_|apply AE|refine AD (h1) ?_)<;>conv=>whnf
 exact AU (Af1 z) (DG _)
theorem Va{z:Int}(hz:-9223372036854775808<=z/\z<=9223372036854775808):Sm 2 (dg z.natAbs):=Sm.dg O'
theorem nE(N:b7 L)(x y:Int)(hx:-9223372036854775808<=x/\x<=9223372036854775807)(hy:-9223372036854775808<=y/\y<=9223372036854775807):Ev L 125 [.int .i64 x,.int .i64 y] (.agg (eQ (Mc x y))):=by
 have h1:=nC N x hx;have h2:=nC N y hy;have hr:=λq q'=>fU N (decide (x<0)) (decide (y<0)) q q' _ _ ((Va (z:=x) O').le O') ((Va (z:=y) O').le O')
 rw[GK,GK]at hr;refine Ev.x N.T8 rfl rfl ?_;repeat' (first|apply AE|refine AD (h1) ?_|refine AD (h2) ?_|refine AD (hr _ _) ?_)<;>conv=>whnf
 exact AU rfl (DG _)
theorem WZ{k l:Nat}{n1 n2:Bool}{a b:u_}(ha:Sm k a)(hb:Sm l b):Sm (k+l) (dg (zv n1 a*zv n2 b).natAbs):=ha.mul hb (by rw[Eb,FH,FH])
theorem Ani{k:Nat}{x y:Int}(ha:Sm k (dg x.natAbs))(hb:Sm k (dg y.natAbs)):Sm (k+1) (dg (x+y).natAbs):=ha.add hb (by rw[BN,BN];omega)
theorem Ajl(N:b7 L)(k:Nat)(hk:1<=k/\k<=68719476736)(n1 n2 q2 q4:Bool)(m1 d1 m2 d2:u_)(ig:Sm k m1)(ox:Sm k d1)(iy:Sm k m2)(ry:Sm k d2){q1 q3:Bool} :
  Ev L 126 [.agg (rQ q1 q2 n1 m1 d1),.agg (rQ q3 q4 n2 m2 d2)] (.agg (eQ (qv n1 m1 d1+qv n2 m2 d2))):=by
 obtain⟨a1,a2,a3,fo,s1,s2,s3,s5⟩:=V3 N n1 false m1 d1 k O' ig ox;obtain⟨b1,b2,b3,dd,t1,t2,t3,t5⟩:=V3 N n2 false m2 d2 k O' iy ry;have l1:=s1.2;have l2:=s2.2;have l3:=t1.2;have l4:=t2.2;rw[s5,t5,iB s3 t3,<-E4 b3,<-E4 a3];have ka:=λq q'=>V4 N a1 false q q' a2 b3 s1.1 t2.1 O'
 have mq:=λq q'=>V4 N b1 false q q' b2 a3 t1.1 s2.1 O'
 have rq:=λq q'=>V4 N false false q q' a3 b3 s2.1 t2.1 O'
 have g1:Sm (k+k) (dg (zv a1 a2*zv false b3).natAbs):=WZ s1 t2;have g2:Sm (k+k) (dg (zv b1 b2*zv false a3).natAbs):=WZ t1 s2;have g3:=Ani g1 g2;have g4:Sm (k+k) (dg (zv false a3*zv false b3).natAbs):=WZ s2 t2;have hA:=λq q'=>zG N (decide (zv a1 a2*zv false b3<0)) (decide (zv b1 b2*zv false a3<0)) q q' _ _ (g1.le O') (g2.le O')
 rw[GK,GK]at hA;have hR:=λq q'=>fU N (decide (zv a1 a2*zv false b3+zv b1 b2*zv false a3<0)) (decide (zv false a3*zv false b3<0)) q q' _ _ (g3.le O') (g4.le O')
 rw[GK,GK,show zv false a3*zv false b3=((val a3*val b3:Nat):Int)by rw[E4,E4];simp,kc]at hR;rw[show zv false a3*zv false b3=((val a3*val b3:Nat):Int)by rw[E4,E4];simp]at rq;refine Ev.x N.T6 rfl rfl ?_;repeat' (first|apply dB|apply AE|refine AD (fo) ?_|refine AD (dd) ?_|refine AD (ka _ _) ?_|refine AD (mq _ _) ?_|refine AD (hA _ _) ?_|refine AD (rq _ _) ?_|refine AD (hR _ _) ?_)<;>conv=>whnf
 exact AU rfl (DG _)
theorem Ajn(N:b7 L)(k:Nat)(hk:1<=k/\k<=68719476736)(n1 n2 q2 q4:Bool)(m1 d1 m2 d2:u_)(ig:Sm k m1)(ox:Sm k d1)(iy:Sm k m2)(ry:Sm k d2){q1 q3:Bool} :
  Ev L 128 [.agg (rQ q1 q2 n1 m1 d1),.agg (rQ q3 q4 n2 m2 d2)] (.agg (eQ (qv n1 m1 d1*qv n2 m2 d2))):=by
 obtain⟨a1,a2,a3,fo,s1,s2,s3,s5⟩:=V3 N n1 false m1 d1 k O' ig ox;obtain⟨b1,b2,b3,dd,t1,t2,t3,t5⟩:=V3 N n2 false m2 d2 k O' iy ry;have l1:=s1.2;have l2:=s2.2;have l3:=t1.2;have l4:=t2.2;rw[s5,t5,pJ];have ka:=λq q'=>V4 N a1 b1 q q' a2 b2 s1.1 t1.1 O'
 have rq:=λq q'=>V4 N false false q q' a3 b3 s2.1 t2.1 O'
 have g1:Sm (k+k) (dg (zv a1 a2*zv b1 b2).natAbs):=WZ s1 t1;have g4:Sm (k+k) (dg (zv false a3*zv false b3).natAbs):=WZ s2 t2;have hR:=λq q'=>fU N (decide (zv a1 a2*zv b1 b2<0)) (decide (zv false a3*zv false b3<0)) q q' _ _ (g1.le O') (g4.le O')
 rw[GK,GK,show zv false a3*zv false b3=((val a3*val b3:Nat):Int)by rw[E4,E4];simp,kc]at hR;rw[show zv false a3*zv false b3=((val a3*val b3:Nat):Int)by rw[E4,E4];simp]at rq;refine Ev.x N.T9 rfl rfl ?_;repeat' (first|apply dB|apply AE|refine AD (fo) ?_|refine AD (dd) ?_|refine AD (ka _ _) ?_|refine AD (rq _ _) ?_|refine AD (hR _ _) ?_)<;>conv=>whnf
 exact AU rfl (DG _)
theorem Th{a b:Int}{d e:Nat}(hd:d≠0)(he:e≠0):v7 (a*e-b*d)=v7 (mkRat a d-mkRat b e).num:=by
 have h:mkRat a d-mkRat b e=mkRat (a*e-b*d) (d*e):=by
  rw[Af,Ng,iB hd he,Df,<-yg]
 rw[h,Tj (Ce hd he)]
theorem Ajm(N:b7 L)(k:Nat)(hk:1<=k/\k<=68719476736)(n1 n2 q2 q4:Bool)(m1 d1 m2 d2:u_)(ig:Sm k m1)(ox:Sm k d1)(iy:Sm k m2)(ry:Sm k d2){q1 q3:Bool} :
  Ev L 127 [.agg (rQ q1 q2 n1 m1 d1),.agg (rQ q3 q4 n2 m2 d2)] (.int .i64 (v7 (qv n1 m1 d1-qv n2 m2 d2).num)):=by
 obtain⟨a1,a2,a3,fo,s1,s2,s3,s5⟩:=V3 N n1 false m1 d1 k O' ig ox;obtain⟨b1,b2,b3,dd,t1,t2,t3,t5⟩:=V3 N n2 false m2 d2 k O' iy ry;have l1:=s1.2;have l2:=s2.2;have l3:=t1.2;have l4:=t2.2;rw[s5,t5,<-Th s3 t3,<-E4 b3,<-E4 a3];have ka:=λq q'=>V4 N a1 false q q' a2 b3 s1.1 t2.1 O'
 have mq:=λq q'=>V4 N b1 false q q' b2 a3 t1.1 s2.1 O'
 have g1:Sm (k+k) (dg (zv a1 a2*zv false b3).natAbs):=WZ s1 t2;have g2:Sm (k+k) (dg (zv b1 b2*zv false a3).natAbs):=WZ t1 s2;have hC:=λq q'=>Aji N (decide (zv a1 a2*zv false b3<0)) (decide (zv b1 b2*zv false a3<0)) q q' _ _ (g1.le O') (g2.le O')
 rw[GK,GK]at hC;refine Ev.x N.T7 rfl rfl ?_;repeat' (first|apply dB|apply AE|refine AD (fo) ?_|refine AD (dd) ?_|refine AD (ka _ _) ?_|refine AD (mq _ _) ?_|refine AD (hC _ _) ?_)<;>conv=>whnf
 exact BM rfl
theorem Bt.qo{k:Nat}{x:Rat}(h:Bt k x)(hk:k<2199023255552):Sm 68719476736 (dg x.num.natAbs)/\Sm 68719476736 (dg x.den):=h.dig O'
theorem QV(N:b7 L){x y:Rat}{k l:Nat}(hx:Bt k x)(hy:Bt l y)(hk:k<2199023255552)(hl:l<2199023255552):Ev L 126 [.agg (eQ x),.agg (eQ y)] (.agg (eQ (x+y))):=by
 have:=Ajl (q1:=false) (q3:=false) N 68719476736 O' (decide (x.num<0)) (decide (y.num<0)) false false _ _ _ _ (hx.qo hk).1 (hx.qo hk).2 (hy.qo hl).1 (hy.qo hl).2
 rw[FX,FX]at this;exact this
theorem V1(N:b7 L){x y:Rat}{k l:Nat}(hx:Bt k x)(hy:Bt l y)(hk:k<2199023255552)(hl:l<2199023255552):Ev L 128 [.agg (eQ x),.agg (eQ y)] (.agg (eQ (x*y))):=by
 have:=Ajn (q1:=false) (q3:=false) N 68719476736 O' (decide (x.num<0)) (decide (y.num<0)) false false _ _ _ _ (hx.qo hk).1 (hx.qo hk).2 (hy.qo hl).1 (hy.qo hl).2
 rw[FX,FX]at this;exact this
theorem AjL(N:b7 L){x:Rat}{k:Nat}(hx:Bt k x)(hk:k<2199023255552):Ev L 123 [.agg (eQ x)] (.agg (eQ x)):=by
 have:=Ajo (q0:=false) N (decide (x.num<0)) false _ _ ((hx.qo hk).1.le O') ((hx.qo hk).2.le O')
 rw[FX]at this;exact this
theorem aH(N:b7 L){x y:Rat}{k l:Nat}(hx:Bt k x)(hy:Bt l y)(hk:k<2199023255552)(hl:l<2199023255552):Ev L 127 [.agg (eQ x),.agg (eQ y)] (.int .i64 (v7 (x-y).num)):=by
 have:=Ajm (q1:=false) (q3:=false) N 68719476736 O' (decide (x.num<0)) (decide (y.num<0)) false false _ _ _ _ (hx.qo hk).1 (hx.qo hk).2 (hy.qo hl).1 (hy.qo hl).2
 rw[FX,FX]at this;exact this
end Go.Eng

namespace Go.Eng
open F
theorem Aiq{L:Lib}{f:Nat}{fn:AFn}{vs:w_}{own o8:Own}{r:AV}(hL:L f=some fn)(yk:J1 fn.body=true)(h:H1 L f vs own r o8):o8=own:=by
 obtain⟨n,h⟩:=h;cases n with
 |zero=>simp[DI]at h
 |succ n=>
  rw[X7]at h;simp only[hL]at h;split at h
  ·split at h
   ·rename_i st o4
    split at h
    ·simp only[Lc,mf]at h
     rw[<-h.2];exact KB n (by simp[Q0,yk]) o4
    ·cases h
   ·cases h
  ·cases h
attribute [local irreducible] AA AF AW AC BD C9 AB A8 AH pw
variable {L:Lib}
theorem Ag3(N:c6 L)(l:u_)(s:Nat)(hD:A1 l)(hl:l.length<=1099511627776):A8 L 65 [.row 5 0 1 0 l.length] [(0,.row 5 0 1 0 l.length)] [(5,s,.rw 1 (l.map AJ))] (λr _=>r = .row 5 0 1 0 (dg (val l)).length):=by
 have hlen:∀n,n<=l.length->l.take n=dg (val l)->n=(dg (val l)).length:=λn h1 h2=>by
  rw[<-h2,oa];omega
 refine IX 1000 N.G3 rfl rfl ?_;(repeat' (apply AE<;>conv=>whnf))
 refine C0 (λn=>n) (λ(n:Nat)=>n<=l.length/\∀i,n<=i->i<l.length->l[i]?=some 0) (λn=>[(3,.int .i64 n)]) (λ_=>[]) l.length ⟨ea _,λi h1 h2=>O'⟩ ?_;intro n ⟨p1,p2⟩ ih;rcases n with _|n
 ·repeat' (first|apply AG<;>intro hc<;>try omega|apply AE)<;>conv=>whnf
  refine IW 0 O' O' ?_;conv=>whnf
  refine⟨rfl,_,rfl,?_⟩;rw[<-hlen 0 p1 (HU hD p1 p2 (Or.inl rfl))];rfl
 ·have e1:((n+1:Nat):Int)-1=n:=O'
  repeat' (first|apply AG<;>intro hc<;>try omega|apply A2;omega|apply BP;omega|refine U6 V' ?_ (λv hv hb=>?_);omega|apply AE)<;>conv=>whnf
  ·rw[e1]
   exact BC [] (ih n O' ⟨O',λi h1 h2=>by
    by_cases h:i=n
    ·subst h
     rw[e1,Aa]at hv;rw[hv];congr 1;omega
    ·exact p2 i O' h2⟩)
  ·refine IW (n+1) O' O' ?_
   (conv=>whnf)
   refine⟨rfl,_,rfl,?_⟩;rw[e1,Aa]at hv;rw[<-hlen (n+1) p1 (HU hD p1 p2 (Or.inr ⟨_,hv,O'⟩))];rfl
theorem Ag2(N:c6 L)(l:u_)(s t:Nat)(own:Own)(hD:A1 l)(hl:l.length<=1099511627776)(hb:(own s).c9 t=some ⟨1,l.map AJ⟩)(ht:t<(own s).j6)(w7:E2 s=true):H1 L 65 [.row s t 1 0 l.length] own (.row s t 1 0 (dg (val l)).length) own:=by
 have hs:H4 (λ_ _=>(s,t)) own [(5,s,.rw 1 (l.map AJ))]:=by
  have key:∀k u c,c8 [(5,s,BA.rw 1 (l.map AJ))] k u=some c->k=5/\u=0/\c = .rw 1 (l.map AJ):=λk u c e=>by
   simp only[c8,e8]at e;cases hk:ve k 5<;>simp only[hk,cond_true,cond_false]at e
   ·cases e
   ·cases u with
    |zero=>simp only[Lc]at e;exact⟨Nat.eq_of_beq_eq_true hk,rfl,e.symm⟩
    |succ u=>cases e
  refine⟨λk s' c e=>?_,λk u c e=>?_,λk u c e=>ht,λk u k' u' c c' e e' _=>?_,λ_ _ _ _ _=>w7⟩
  ·simp only[e8]at e
   cases hk:ve k 5<;>simp only[hk,cond_true,cond_false]at e
   ·cases e
   ·simp only[Lc,mf]at e;exact e.1
  ·obtain⟨_,_,rfl⟩:=key k u c e
   exact hb
  ·obtain⟨rfl,rfl,_⟩:=key k u c e
   obtain⟨rfl,rfl,_⟩:=key k' u' c' e';exact⟨rfl,rfl⟩
 have hw:=Ag3 N l s hD hl;unfold A8 at hw;obtain⟨r,o8,σ',M',h1,h2,h3,rfl⟩:=hw _ own hs;have ho:=Aiq N.G3 (by decide +kernel) h1;subst ho;have h4:AV.row (σ' 5 0).1 (σ' 5 0).2 1 0 l.length=AV.row s t 1 0 l.length:=h3 0;simp only[AV.row.injEq]at h4;have h5:H1 L 65 [.row s t 1 0 l.length] o8 (.row (σ' 5 0).1 (σ' 5 0).2 1 0 (dg (val l)).length) o8:=h1;rw[h4.1,h4.2.1]at h5;exact h5
theorem cT(N:c6 L){l:u_}{tm:Tm}{M:Mem}{K:AV->Mem->Prop}{key s len:Nat}(hD:A1 l)(hl:l.length<=1099511627776)(hm:e8 M key=some (s,.rw 1 (l.map AJ)))(hlen:len=l.length)(hk:K (.row key 0 1 0 (dg (val l)).length) M):A8 L 65 [.row key 0 1 0 len] tm M K:=by
 subst hlen;unfold A8;intro σ own hs;have gv:=hs.site _ _ _ hm;have Gz:c8 M key 0=some (.rw 1 (l.map AJ)):=by simp only[c8,hm]
 have hb:=hs.c9 _ _ _ Gz;have ht:=hs.old _ _ _ Gz;refine⟨.row key 0 1 0 (dg (val l)).length,own,σ,M,?_,hs,λ_=>rfl,hk⟩;exact Ag2 N l (σ key 0).1 (σ key 0).2 own hD hl hb ht (hs.low _ _ _ (EA hm) rfl)
end Go.Eng

namespace Go.Eng
open F
attribute [local irreducible] AA AF AW AC AX BD BG AB A8 AH pw
variable {L:Lib}
abbrev mK(v:u_)(j m s xl:Nat):Tm:=[(102,AV.sl false (Fb AJ v)),(101,AV.row 71012 0 1 j (v.length+1)),
           (100,AV.int IntKind.i64 (↑j + ↑v.length+1)),(99,AV.int IntKind.i64 (↑j + ↑v.length)),
           (98,AV.int IntKind.i64 ↑v.length),(97,AV.int IntKind.i64 ↑j),(96,AV.int IntKind.i64 ↑j),
           (95,AV.row 71012 0 1 0 (xl+1)),(94,AV.int IntKind.i64 ↑j),(93,AV.row 28 0 1 0 m),
           (90,AV.bool true),(14,AV.int IntKind.i64 ↑j),(13,AV.sl false (Fb AJ v)),
           (12,AV.row 71012 0 1 0 (xl+1)),(11,AV.int IntKind.u64 ↑s),(7,AV.row 28 0 1 0 m),
           (6,AV.int IntKind.i64 ↑v.length)]
abbrev Aia:List It:=[It.lp G4.l2,It.c9 2,It.code
      (((BF.ops G4.Ao false).dr [9,10,84,85,86,87,118,119,120,121,122,123,124,125,126]
         []).seq
       (((BF.ops G4.Jz false).dr [127,128,129,130,131] []).seq
        ((((BF.ops G4.Ka false).dr [15,132,133] []).seq
           (BF.cond 134
            (((BF.ops G4.Kb false).dr [0,1,5,7,134,135,136] []).seq BF.ret)
            BF.skip)).seq
         (((BF.ops G4.Kc false).dr [134] []).seq
          ((((BF.ops G4.Kd false).dr [1] []).seq (BF.block 4 G4.l3.loop)).seq
           (((BF.ops G4.Ke false).dr
              [0,5,9,137,138,139,140,162,163,164,165,166,167,168,169] []).seq
            (((BF.ops G4.Kf false).dr [7,170,171,172] []).seq BF.ret)))))))]
section
variable {A W C w v:u_} {j m s xl q:Nat} {K:AV->Mem->Prop}
theorem mA(hA:A.length=j)(hW:W.length=v.length+1)(D2:A1 W)(gn:A1 v)(iv:2<=v.length)(vu:v.length<=549755813888)(bn:0<val v)
  (r1:q<4294967296) (r2:val W/val v<=q) (r3:q<=val W/val v+1)
  (hk:∀(W':u_)(o':v_)(q':Nat),W'.length=v.length+1->A1 W'->val W'=val W%val v->q'=val W/val v->K (.int .u32 (q':Int)) [(71012,71012,.rw 1 ((A++W'++C).map AJ)),(28,28,.rw 1 (w.map AJ)),(71012,71012,.rw 1 o')])
  (ny:∀(W':u_)(o':v_)(q':Nat),W'.length=v.length+1->A1 W'->val W'=val W%val v->q'=val W/val v->K (.int .u32 (q':Int)) [(71012,71012,.rw 1 ((A++W'++C).map AJ)),(71012,71012,.rw 1 o'),(28,28,.rw 1 (w.map AJ))]) :
  AA L Aia ([(86,.int .i64 0),(85,.int .i64 v.length),(84,.sl false (v.map AJ)),(10,.int .u64 0),(9,.int .u64 0),(7,.int .u64 (q:Int)),(5,.int .i64 v.length),(0,AV.row 71012 0 1 j (v.length+1)),(1,AV.sl false (Fb AJ v))]++HX 1000 (mK v j m s xl))
   [(71012,71012,BA.rw 1 (Fb AJ (A++W++C))),(28,28,BA.rw 1 (Fb AJ w))] (uG 1000 G4 (mK v j m s xl) K):=by
 refine tF (λi _ _ _=>v.length-i) (λ(i:Nat)(Z:u_)(c b:Nat)=>i<=v.length/\Z.length=v.length+1/\A1 Z/\c<4294967296/\b<=1/\Z.drop i=W.drop i/\val (Z.take i)+q*val (v.take i)=val (W.take i)+4294967296^i*(c+b)) (λi Z c b=>[(86,.int .i64 i),(10,.int .u64 (b:Int)),(9,.int .u64 (c:Int))]) (λi Z c b=>[(71012,71012,.rw 1 ((A++Z++C).map AJ))]) [] [] 0 W 0 0 E' ⟨O',hW,D2,O',O',rfl,by simp[val]⟩ ?_;intro i Z c b ⟨p1,p2,p3,p4,p5,p6,p7⟩ ih;by_cases hi:i<v.length
 ·obtain⟨d,hd⟩:=N' v i hi
  obtain⟨u,hu⟩:=N' Z i;have az:=gn.at hd;have su:=p3.at hu;obtain⟨pr,tv⟩:∃pr,pr=q*d+c:=⟨_,rfl⟩;obtain⟨m1,m2,m3⟩:=To r1 az p4 tv;have xn:W[i]?=some u:=by
   have e1:(Z.drop i)[0]?=(W.drop i)[0]? := by rw[p6]
   simpa [hu]using e1.symm
  repeat' (first|apply AG<;>intro hc<;>try omega|apply A2;omega|apply HH;omega|apply QG;omega|apply GD|apply B1;omega|refine A3 V' ?_ rfl ?_;omega|apply AE)<;>conv=>whnf
  rw[<-tv];refine RP i hu O' ?_;conv=>whnf
  repeat' (first|apply A2;omega|apply dK;omega|apply B1;omega|apply GV)<;>conv=>whnf
  obtain⟨s1,s2⟩:=jY su (show pr%4294967296<4294967296 by omega) p5;have o4:=AlQ p7 tv rfl su p5;generalize E1 (E1 u (pr%4294967296)) b=t at*;refine OC i O' O' ?_;conv=>whnf
  repeat' (first|apply AR;omega|apply dJ)<;>conv=>whnf
  refine A9 [] E' (ih (i+1) _ _ _ O' ⟨O',by simpa using p2,p3.set _ O',m1,s2,?_,?_⟩)
  ·rw[rb O']
   have e1:(Z.drop i).drop 1=(W.drop i).drop 1:=by rw[p6]
   simpa using e1
  ·rw[HD O',EB hd,EB xn,Ha]
   exact o4
 ·obtain rfl:i=v.length:=O'
  clear ih;obtain⟨u,hu⟩:=N' Z v.length;have su:=p3.at hu;have xn:W[v.length]?=some u:=by
   have e1:(Z.drop v.length)[0]?=(W.drop v.length)[0]? := by rw[p6]
   simpa [hu]using e1.symm
  rw[C8 (ea v.length)]at p7;obtain⟨s1,s2⟩:=jY su p4 p5;have o4:=AlO p7 rfl su p4 p5;have eW:val W=val (W.take v.length)+4294967296^v.length*u:=by
   rw[<-EB xn,C8 O']
  rw[<-eW,<-HD (show v.length<Z.length by omega),C8 K']at o4;repeat' (first|apply AG<;>intro hc<;>try omega|apply A2;omega|apply AE)<;>conv=>whnf
  refine RP v.length hu O' ?_;conv=>whnf
  repeat' (first|apply A2;omega|apply dK;omega|apply B1;omega|apply GV)<;>conv=>whnf
  generalize E1 (E1 u c) b=t at*;refine OC v.length O' O' ?_;conv=>whnf
  repeat' (first|apply AG<;>intro hc<;>try omega|apply dJ|apply EP;omega|apply AP)<;>conv=>whnf
  ·have ht0:t/9223372036854775808=0:=O'
   rw[ht0,Lb,La]at o4;obtain⟨y1,y2⟩:=wR bn r2 o4;exact⟨rfl,_,rfl,hk _ _ _ (by simpa using p2) (p3.set _ O') y2 y1⟩
  ·have ht1:t/9223372036854775808=1:=O'
   rw[ht1,Cd]at o4;have Fj:A1 (Z.set v.length (t%4294967296)):=p3.set _ O';have Dc:(Z.set v.length (t%4294967296)).length=v.length+1:=by simpa using p2
   clear p7 p6 p4 p5 s1 s2 eW ht1 hu xn su p1 p2 p3;generalize Z.set v.length (t%4294967296)=X at*;have Da:=FM Fj;rw[Dc,Ha]at Da;obtain⟨y1,y2,y3⟩:=wP bn r3 Da o4;have hRV:val W%val v<val v:=da _ bn;have Bf:=FM gn;obtain⟨xw,Cr⟩:=N' X v.length;have eX:val X=val (X.take v.length)+4294967296^v.length*xw:=by
    rw[<-EB Cr,C8 O']
   refine FP (λi _ _=>v.length-i) (λ(i:Nat)(Z:u_)(c:Nat)=>i<=v.length/\Z.length=v.length+1/\A1 Z/\c<=1/\Z.drop i=X.drop i/\val (Z.take i)+4294967296^i*c=val (X.take i)+val (v.take i)) (λi Z c=>[(139,.int .i64 i),(9,.int .u64 (c:Int))]) (λi Z c=>[(71012,71012,.rw 1 ((A++Z++C).map AJ))]) 0 X 0 ⟨O',Dc,Fj,O',rfl,by simp[val]⟩ ?_;intro i Z c ⟨p1,p2,p3,p4,p6,p7⟩ ih;by_cases hi:i<v.length
   ·obtain⟨d,hd⟩:=N' v i hi
    obtain⟨u,hu⟩:=N' Z i;have az:=gn.at hd;have su:=p3.at hu;have mr:X[i]?=some u:=by
     have e1:(Z.drop i)[0]?=(X.drop i)[0]? := by rw[p6]
     simpa [hu]using e1.symm
    have xq:=uN (d:=d) (w:=u) p7 rfl;repeat' (first|apply AG<;>intro hc<;>try omega|apply A2;omega|refine A3 V' ?_ rfl ?_;omega|apply AE)<;>conv=>whnf
    refine RP i hu O' ?_;conv=>whnf
    repeat' (first|apply A2;omega|apply HH;omega|apply B1;omega|apply GV)<;>conv=>whnf
    generalize ht2:u+d+c=t2 at*;refine OC i O' O' ?_;conv=>whnf
    repeat' (first|apply AR;omega|apply GD)<;>conv=>whnf
    refine A9 [] E' (ih (i+1) _ _ O' ⟨O',by simpa using p2,p3.set _ O',O',?_,?_⟩)
    ·rw[rb O']
     have e1:(Z.drop i).drop 1=(X.drop i).drop 1:=by rw[p6]
     simpa using e1
    ·rw[HD O',EB hd,EB mr,Ha]
     exact xq
   ·obtain rfl:i=v.length:=O'
    clear ih;obtain⟨u,hu⟩:=N' Z v.length;have su:=p3.at hu;have mr:X[v.length]?=some u:=by
     have e1:(Z.drop v.length)[0]?=(X.drop v.length)[0]? := by rw[p6]
     simpa [hu]using e1.symm
    rw[mr]at Cr;obtain rfl:u=xw:=by simpa using Cr
    rw[C8 (ea v.length)]at p7;have Fk:=FM (p3.take v.length);rw[oa,fc O']at Fk;rw[eX]at y3;have qe:=uM p7 y3 O' Fk;rw[<-HD (show v.length<Z.length by omega),C8 K']at qe;repeat' (first|apply AG<;>intro hc<;>try omega|apply A2;omega|apply AE)<;>conv=>whnf
    refine RP v.length hu O' ?_;conv=>whnf
    repeat' (first|apply A2;omega|apply tZ|apply EP;omega)<;>conv=>whnf
    refine OC v.length O' O' ?_;conv=>whnf
    repeat' (first|(apply KL;omega;omega)|apply EP;omega)<;>conv=>whnf
    exact⟨rfl,_,rfl,ny _ _ _ (by simpa using p2) (p3.set _ O') qe y1⟩
theorem Ahi(N:c6 L)(hA:A.length=j)(hW:W.length=v.length+1)(D2:A1 W)(gn:A1 v)(iv:2<=v.length)(vu:v.length<=549755813888)(bn:0<val v)
  (n2:4294967296^(v.length-1)*2147483648<=val v) (g2:val W<4294967296*val v)
  (hk:∀(W':u_)(o':v_)(q':Nat),W'.length=v.length+1->A1 W'->val W'=val W%val v->q'=val W/val v->K (.int .u32 (q':Int)) [(71012,71012,.rw 1 ((A++W'++C).map AJ)),(28,28,.rw 1 (w.map AJ)),(71012,71012,.rw 1 o')])
  (ny:∀(W':u_)(o':v_)(q':Nat),W'.length=v.length+1->A1 W'->val W'=val W%val v->q'=val W/val v->K (.int .u32 (q':Int)) [(71012,71012,.rw 1 ((A++W'++C).map AJ)),(71012,71012,.rw 1 o'),(28,28,.rw 1 (w.map AJ))]) :
  A8 L 73 [AV.row 71012 0 1 j (v.length+1),AV.sl false (Fb AJ v)] (mK v j m s xl) [(71012,71012,BA.rw 1 (Fb AJ (A++W++C))),(28,28,BA.rw 1 (Fb AJ w))] K:=by
 obtain⟨UL,a1,a2⟩:=kE D2 (n:=v.length+1) O' O';obtain⟨VL,b5,b6⟩:=Yl gn (n:=v.length) iv O';obtain⟨u0,w0⟩:=N' W v.length;obtain⟨u1,w1⟩:=N' W (v.length-1);obtain⟨u2,w2⟩:=N' W (v.length-2);obtain⟨f1,x1⟩:=N' v (v.length-1);obtain⟨f2,x2⟩:=N' v (v.length-2);rw[show v.length+1-3=v.length-2 by omega,show v.length+1-2=v.length-1 by omega,show v.length+1-1=v.length by omega,H7 w0,H7 w1,H7 w2]at a2;rw[show v.length+1-3=v.length-2 by omega]at a1;rw[H7 x1,H7 x2]at b6;have tp:=Ye gn (k:=v.length-1) O' n2 x1;have k0:=D2.at w0;have k1:=D2.at w1;have k2:=D2.at w2;have k3:=gn.at x1;have k4:=gn.at x2;have z1:v[((v.length:Int)-1).toNat]?=some f1:=by rw[show((v.length:Int)-1).toNat=v.length-1 by omega];exact x1
 have z2:v[((v.length:Int)-2).toNat]?=some f2:=by rw[show((v.length:Int)-2).toNat=v.length-2 by omega];exact x2
 refine IX 1000 N.G4 rfl rfl ?_;repeat' (first|apply A2;omega|apply AP|apply AE)<;>conv=>whnf
 refine RP v.length w0 O' ?_;conv=>whnf
 repeat' (first|apply A2;omega|apply BP;omega|apply OA;omega|apply B1;omega)<;>conv=>whnf
 refine RP (v.length-1) w1 O' ?_;conv=>whnf
 refine tO O' ?_;conv=>whnf
 refine QH O' ?_;conv=>whnf
 generalize Oo:u0*4294967296+u1=top at*;have Hg:top<=18446744073709551615:=O'
 have hU:val W=UL+4294967296^(v.length-2)*(u2+4294967296*top):=by rw[a2,show u1+4294967296*u0=top by omega]
 repeat' (first|apply BP;omega|apply ZR;omega|(apply dH;omega;omega)|apply B1;omega|refine A3 V' ?_ rfl ?_;omega)<;>conv=>whnf
 refine ZI (λq _=>q) (λ(q r:Nat)=>Gs (val W) (val v) f1 f2 u2 top q r) (λq r=>[(7,.int .u64 (q:Int)),(8,.int .u64 (r:Int))]) (λ_ _=>[]) [] [] (top/f1) (top%f1) E' (Gs.start hU b6 a1 k2 bn O' k3) ?_;intro q r g gi;have Ns:q<=top:=by
  have h3:=g.hq;have h4:q*1<=q*f1:=mb q O';omega
 have hr:=g.hr;have ic:=g.ge;by_cases hb:4294967296<=q
 ·obtain⟨y1,y2,y3⟩:=g.next hU b6 a1 bn g2 (Or.inl hb)
  repeat' (first|apply AG<;>intro hc<;>try omega|apply BP;omega|apply HH;omega|(apply KL;omega;omega)|apply B1;omega|apply AP|refine A3 V' ?_ rfl ?_;omega|apply AE)<;>conv=>whnf
  ·obtain⟨t1,t2⟩:=YF hU b6 b5 tp k4 g2 y2 (Or.inr O')
   exact A9 [] E' (mA (w:=w) (C:=C) hA hW D2 gn iv vu bn t1 y3 t2 hk ny)
  ·exact A9 [] E' (gi (q-1) (r+f1) O' ⟨y2,O',y3⟩)
 ·have hmq:=YR (show q<4294967296 by omega) k4
  by_cases v8:r*4294967296+u2<q*f2
  ·obtain⟨y1,y2,y3⟩:=g.next hU b6 a1 bn g2 (Or.inr v8)
   repeat' (first|apply AG<;>intro hc<;>try omega|apply A2;omega|apply BP;omega|apply QG;omega|apply OA;omega|apply B1;omega|refine A3 V' ?_ rfl ?_;omega|apply AE)<;>conv=>whnf
   refine RP (v.length-2) w2 O' ?_;conv=>whnf
   repeat' (first|apply AG<;>intro hc<;>try omega|apply BP;omega|apply HH;omega|apply QH;omega|(apply KL;omega;omega)|apply B1;omega|apply AP|refine A3 V' ?_ rfl ?_;omega)<;>conv=>whnf
   ·obtain⟨t1,t2⟩:=YF hU b6 b5 tp k4 g2 y2 (Or.inr O')
    exact A9 [] E' (mA (w:=w) (C:=C) hA hW D2 gn iv vu bn t1 y3 t2 hk ny)
   ·exact A9 [] E' (gi (q-1) (r+f1) O' ⟨y2,O',y3⟩)
  ·obtain⟨t1,t2⟩:=YF hU b6 b5 tp k4 g2 g.hq (Or.inl ⟨O',O'⟩)
   repeat' (first|apply AG<;>intro hc<;>try omega|apply A2;omega|apply BP;omega|apply QG;omega|apply OA;omega|apply B1;omega|refine A3 V' ?_ rfl ?_;omega|apply AE)<;>conv=>whnf
   refine RP (v.length-2) w2 O' ?_;conv=>whnf
   repeat' (first|apply AG<;>intro hc<;>try omega|apply QH;omega|apply B1;omega|apply AP)<;>conv=>whnf
   exact A9 [] E' (mA (w:=w) (C:=C) hA hW D2 gn iv vu bn t1 ic t2 hk ny)
end
end Go.Eng

namespace Go.Eng
open F
attribute [local irreducible] AA AF AW AC AX BG CM A5 C9 AB A8 AH pw
variable {L:Lib}
theorem Anj{V R y d t Q:Nat}(h:Q*y+R=V)(ht:t=R*4294967296+d):(t/y+4294967296*Q)*y+t%y=d+4294967296*V:=by
 have:=zc t y
 rw[<-h,Ge];have e:t/y*y=y*(t/y):=Ga _ _;grind
theorem Z5(a b:u_):AY (.j4 [.sl false (a.map AJ),.sl false (b.map AJ)]):=by
 simp only[AY,BI,and_true,true_and];exact⟨CS a,CS b⟩
set_option maxHeartbeats 4000000 in
theorem mW(N:c6 L)(X Y:Nat)(q1 q2:Bool)(hY:Y≠0)(lx:(dg X).length<=549755813888)(ly:(dg Y).length<=549755813888):Ev L 74 [.sl q1 ((dg X).map AJ),.sl q2 ((dg Y).map AJ)] (.j4 [.sl false ((dg (X/Y)).map AJ),.sl false ((dg (X%Y)).map AJ)]):=by
 have hcmp:=λq q'=>QW N (dg X) (dg Y) q q' (DX X) (DX Y) O' O'
 rw[BN,BN]at hcmp;have d1:=DX X;have d2:=DX Y;have v1:=BN X;have v2:=BN Y;have hy1:=aD hY;refine Ev.x N.MU rfl rfl ?_;by_cases hlt:X<Y
 ·have hn:C4 X Y = -1:=(J2 O').symm
  rw[hn]at hcmp;repeat' (first|apply AG<;>intro hc<;>try omega|apply AE|refine AD (hcmp _ _) ?_|refine AD (yA N (dg X) _ O') ?_)<;>conv=>whnf
  refine AU ?_ (Z5 _ _);rw[tb hlt,qb hlt,FJ];rfl
 have ic:0<=C4 X Y:=by unfold C4;split<;>(try split)<;>omega
 have sf:=R2 (show Y<=X by omega);generalize C4 X Y=cm at*;by_cases h1:(dg Y).length=1
 ·-- one digit
  obtain⟨y0,qj⟩:∃y0,dg Y=[y0]:=xc.1 h1;have sz:Y=y0:=by rw[<-v2,qj];simp[val]
  subst sz;have Dw:Y<4294967296:=d2 Y (by rw[qj];simp);have hyg:(dg Y)[0]?=some Y:=by rw[qj];rfl
  clear qj v2;generalize dg Y=y at*;generalize hx:dg X=x at*;repeat' (first|apply AG<;>intro hc<;>try omega|apply AR;omega|apply BP;omega|apply AP|apply AE|refine AD (hcmp _ _) ?_)<;>conv=>whnf
  refine E6 (enc:=AJ) 0 x.length rfl O' O' ?_;conv=>whnf
  repeat' (first|apply AG<;>intro hc<;>try omega|apply BP;omega|apply AP)<;>conv=>whnf
  refine FP (λn _ _=>n) (λ(n:Nat)(o:u_)(r:Nat)=>n<=x.length/\o.length=x.length/\A1 o/\r<Y/\val (o.drop n)*Y+r=val (x.drop n)) (λn o r=>[(8,.int .u64 (r:Int)),(9,.int .i64 ((n:Int)-1))]) (λn o r=>[(28,28,.rw 1 (o.map AJ))]) x.length (ga x.length 0) 0 ⟨O',Z',KS _,O',by rw[Ma (ea _),Ma Z'];simp[val]⟩ ?_;intro n o r ⟨p1,p2,p3,p4,p5⟩ ih;rcases n with _|n
  ·rw[ya,ya]at p5
   have hq:X/Y=val o/\X%Y=r:=by
    rw[<-v1,<-p5];have e1:(val o*Y+r)/Y=val o:=by
     rw[Ga,Md O',tb p4,La]
    have e2:(val o*Y+r)%Y=r:=by
     rw[Ga,cd,qb p4]
    exact⟨e1,e2⟩
   rw[hq.1,hq.2,<-p2];clear ih hq p5;have gq:=FA p3;have fo:A1 [r]:=II O';have iu:=FA fo;have Co:val [r]=r:=by simp[val]
   have hl3:[r].length=1:=rfl;repeat' (first|apply AG<;>intro hc<;>try omega|apply EP;omega|apply AE|refine cT N V' O' rfl (by first|rfl|omega|assumption) ?_)<;>conv=>whnf
   refine HQ (enc:=AJ) (λ_=>rfl) O' ?_;conv=>whnf
   refine HQ (enc:=AJ) (l:=[r]) (λ_=>rfl) O' ?_;conv=>whnf
   refine AU ?_ (Z5 _ _);rw[ya,ya,cJ p3,cJ fo,Co]
  ·have e1:((n+1:Nat):Int)-1=n:=O'
   rw[e1];obtain⟨d,hd⟩:=N' x n;have az:=d1.at hd;have hYb:Y<4294967296:=Dw;have hR:r*4294967296+d<Y*4294967296:=O'
   have vl:(r*4294967296+d)/Y<4294967296:=(Pb O').2 O';repeat' (first|apply AG<;>intro hc<;>try omega|apply A2;omega|apply OA;omega|apply QH;omega|(apply dH;omega;omega)|apply B1;omega|apply EP;omega|refine A3 V' ?_ rfl ?_;omega|apply AE)<;>conv=>whnf
   obtain⟨t,ht⟩:∃t,t=r*4294967296+d:=⟨_,rfl⟩;rw[<-ht]at hR vl⊢;have hm:t%Y<Y:=da _ O';have o4:=Anj p5 ht;rw[<-IU hd]at o4;clear ht;skip
   refine F4 O' ?_;conv=>whnf
   repeat' (first|apply BP;omega|apply ZR;omega|apply B1;omega|refine A3 V' ?_ rfl ?_;omega)<;>conv=>whnf
   generalize t/Y=tq at*;generalize t%Y=tr at*;refine A9 [] E' (ih n _ _ O' ⟨O',by simpa using p2,p3.set _ O',hm,?_⟩);rw[IU (l:=o.set n tq) (d:=tq) (by rw[tc O']),rb O'];exact o4
 ·-- two digits or more
  have Nj:2<=(dg Y).length:=O'
  obtain⟨yt,yw,yx⟩:=lZ hY;have vy:=d2.at yw;obtain⟨b1,b2,b3,b4⟩:=pD yx vy;have Gf:=yF N yt vy;generalize hs:32-u7 yt=s at*;have fb:s<=31:=O'
  generalize dg Y=y at*;generalize hx:dg X=x at*;have e1:((y.length:Int)-1).toNat=y.length-1:=O'
  rw[<-e1]at yw;obtain⟨rv,hrv,v,hV,kv,Oa⟩:=AiZ N y q2 s y.length d2 fb O' O';subst Oa;repeat' (first|apply AG<;>intro hc<;>try omega|apply AR;omega|apply BP;omega|apply AP|apply AE|refine AD (hcmp _ _) ?_)<;>conv=>whnf
  refine E6 (enc:=AJ) 0 (x.length-y.length+1) rfl O' O' ?_;conv=>whnf
  repeat' (first|apply AG<;>intro hc<;>try omega|apply AR;omega|apply BP;omega|apply B1;omega|apply AP|refine A3 V' ?_ rfl ?_;omega|refine AD (Gf) ?_)<;>conv=>whnf
  refine IX 1000 N.MW rfl rfl ?_;(repeat' (apply AE<;>conv=>whnf))
  refine E6 (enc:=AJ) 0 (x.length+1) rfl O' O' ?_;conv=>whnf
  (repeat' (apply AP<;>conv=>whnf))
  have oy:=bQ (s:=s) O';refine FP (λi _ _=>x.length-i) (λ(i:Nat)(o:u_)(lo:Nat)=>i<=x.length/\o.length=x.length+1/\A1 o/\lo<2^s/\val (o.take i)+4294967296^i*lo=val (x.take i)*2^s) (λi o lo=>[(8,.int .u32 (lo:Int)),(15,.int .i64 i)]) (λi o lo=>[(71012,71012,.rw 1 (o.map AJ))]) 0 (ga (x.length+1) 0) 0 ⟨O',Z',KS _,nb s,by simp[val]⟩ ?_;intro i o lo ⟨p1,p2,p3,p4,p5⟩ ih;by_cases hi:i<x.length
  ·obtain⟨d,hd⟩:=N' x i hi
   have az:=d1.at hd;obtain⟨f1,f2,f3,f4⟩:=WU (s:=s) az O';repeat' (first|apply AG<;>intro hc<;>try omega|refine A3 V' ?_ rfl ?_;omega|apply AE)<;>conv=>whnf
   refine uC O' ?_;conv=>whnf
   skip
   refine kN s f1 p4 O' ?_;conv=>whnf
   repeat' (first|apply A2;omega|fail)<;>conv=>whnf
   refine F4 O' ?_;conv=>whnf
   repeat' (first|apply B1;omega|fail)<;>conv=>whnf
   refine QJ O' f4 ?_;conv=>whnf
   repeat' (first|apply AR;omega|apply GD|apply EP;omega)<;>conv=>whnf
   rw[<-WT];refine A9 [] E' (ih (i+1) _ _ O' ⟨O',by simpa using p2,p3.set _ O',f2,?_⟩);rw[HD O',EB hd,Ha];exact Up p5
  obtain rfl:i=x.length:=O'
  clear ih;repeat' (first|apply AG<;>intro hc<;>try omega|apply A2;omega|apply AP|apply AE)<;>conv=>whnf
  refine F4 O' ?_;conv=>whnf
  skip
  have hU:=Uo p3 O' p2 p5;have zr:(o.set x.length lo).length=x.length+1:=by simpa using p2
  clear p3 p4 p5 p2;generalize o.set x.length lo=u at*;refine⟨rfl,_,rfl,?_⟩;conv=>whnf
  repeat' (first|apply BP;omega|apply AP|refine AD (hrv) ?_)<;>conv=>whnf
  have Oz:y[y.length-1]?=some yt:=by rw[<-e1];exact yw
  obtain⟨n1,n2⟩:=oU d2 Oz O' fb b3 b4;have Iy:val v=Y*2^s:=by rw[<-v2];exact hV.2.2 (by rw[kv];exact n1)
  have Ix:val u=X*2^s:=by
   rw[<-v1];refine hU.2.2 ?_;have h3:=FM d1;rw[zr,Ha];exact yc (Oc h3 (nb s)) (mb _ oy)
  have gn:=hV.1;have Iv:=hU.1;have Bg:=FM gn;rw[v2,<-Iy]at n2;rw[<-kv]at n2;clear hV hU hcmp hrv Gf;have iv:2<=v.length:=O'
  have hvx:v.length<=x.length:=O'
  have vu:v.length<=549755813888:=O'
  have hxL:x.length<=549755813888:=O'
  have hX:X<4294967296^x.length:=by rw[<-v1];exact FM d1
  rw[<-kv];generalize hm:x.length-v.length+1=m at*;have bn:0<val v:=by
   have:=Ww (v.length-1)
   omega
  have lj:val (u.drop m)<val v:=by
   have h1:=LH u m O';rw[Ix]at h1;have h2:X*2^s<4294967296^x.length*2147483648:=yc (Oc hX (nb s)) (mb _ (Ed O' fb));have h3:4294967296^x.length=4294967296^m*4294967296^(v.length-1):=by rw[<-Dd];congr 1;omega
   rw[h3,Cc]at h2;refine yc ?_ n2;refine Nat.lt_of_mul_lt_mul_left (a:=4294967296^m) ?_;omega
  have e2:(x.length:Int)-v.length=((m:Nat):Int)-1:=O'
  rw[e2];refine FP (λn _ _=>n) (λ(n:Nat)(o w:u_)=>n<=m/\o.length=x.length+1/\A1 o/\w.length=m/\A1 w/\val (o.drop n)<val v/\X*2^s=val (o.take n)+4294967296^n*(val (w.drop n)*val v+val (o.drop n))) (λn o w=>[(14,.int .i64 ((n:Int)-1))]) (λn o w=>[(71012,71012,.rw 1 (o.map AJ)),(28,28,.rw 1 (w.map AJ))]) m u (ga m 0) ⟨O',zr,Iv,Z',KS _,lj,by rw[<-Ix,Ma (show(ga m 0).length<=m by simp),KH,Pc,db];exact LH u m O'⟩ ?_;intro n o w ⟨p1,p2,p3,p4,p5,p6,p7⟩ ih;rcases n with _|j
  ·clear ih
   rw[ya]at p6;rw[Jd,ya,ya,KH,db,Oe,jc]at p7;have dm:val o=val (o.take v.length):=by
    have h1:=W7 o v.length;rcases te (val (o.drop v.length))with h2|h2
    ·rw[h2,Lb,La]at h1;exact h1
    ·have h3:4294967296^v.length*1<=4294967296^v.length*val (o.drop v.length):=mb _ h2
     omega
   have xp:X/Y=val w/\X%Y=val o/2^s:=by
    obtain⟨z1,z2⟩:=wU (X:=X) (Y:=Y) (nb s);rw[<-z1,<-z2,<-Iy,p7];have e1:(val w*val v+val o)/val v=val w:=by
     rw[Ga,Md bn,tb p6,La]
    have e2:(val w*val v+val o)%val v=val o:=by
     rw[Ga,cd,qb p6]
    rw[e1,e2];exact⟨rfl,rfl⟩
   rw[xp.1,xp.2];have gq:=FA p5;obtain⟨ro,yk,o2,k1,k2,k3,k4⟩:=Ai0 N (o.take v.length) true s (p3.take _) fb J';subst k4;rw[dm,<-k3];have iu:=FA k1;rw[oa]at k2;clear p7 xp lj;repeat' (first|apply AG<;>intro hc<;>try omega|apply AE|refine cT N V' O' rfl (by first|rfl|omega|assumption) ?_)<;>conv=>whnf
   refine IW v.length rfl O' ?_;conv=>whnf
   refine HQ (enc:=AJ) (λ_=>rfl) O' ?_;conv=>whnf
   rw[ya,sc];repeat' (first|refine AD (yk) ?_|refine L9 (NF N o2 _ k1 O') ?_)<;>conv=>whnf
   refine HQ (enc:=AJ) (λ_=>rfl) O' ?_;conv=>whnf
   refine AU ?_ (Z5 _ _);rw[ya,cJ p5]
  ·have e3:((j+1:Nat):Int)-1=j:=O'
   rw[e3];have e4:(v.length:Int).toNat=v.length:=O'
   obtain⟨A,W,C,hA,hW,rfl⟩:=xM o j (v.length+1) O';obtain⟨g1,g2,g3⟩:=xO hA hW p3 p6 Bg;obtain⟨D1,D2,D3⟩:=wO p3;have wv:val W/val v<4294967296:=(Pb bn).2 g2;have Ls:val W=val W/val v*val v+val W%val v:=by rw[Ga];exact(zc _ _).symm
   have Bh:val W%val v<val v:=da _ bn;have Be:X*2^s=val A+4294967296^j*val W+4294967296^j*4294967296*(val (w.drop (j+1))*val v):=by
    rw[p7,Ie,<-g3,Ha];omega
   have qt:=xN Be Ls;have bj:∀q',q'=val W/val v->val ((w.set j q').drop j)=val W/val v+4294967296*val (w.drop (j+1)):=λq' h=>by
    rw[IU (l:=w.set j q') (d:=q') (by rw[tc O']),rb O',h]
   have hlen:∀W':u_,W'.length=v.length+1->(A++W'++C).length=x.length+1:=λW' h=>by
    rw[<-p2];simp[h,hW]
   repeat' (first|apply AG<;>intro hc<;>try omega|apply AR;omega|apply AeQ;omega|apply AE)<;>conv=>whnf
   rw[show((j:Int)+v.length+1).toNat-(j:Int).toNat=v.length+1 by omega,show 0+(j:Int).toNat=j by omega];refine Ahi N hA hW D2 gn iv vu bn n2 g2 (λW' o' q' z1 z2 z3 z4=>?_) (λW' o' q' z1 z2 z3 z4=>?_)
   ·(conv=>whnf)
    repeat' (first|apply A2;omega|fail)<;>conv=>whnf
    refine F4 O' ?_;conv=>whnf
    repeat' (first|apply BP;omega|fail)<;>conv=>whnf
    obtain⟨t1,t2⟩:=mL (A:=A) (W:=W') (C:=C) (j:=j) hA g1;refine A9 [] E' (ih j (A++W'++C) (w.set j q') O' ⟨O',hlen W' z1,(D1.append z2).append D3,by simpa using p4,p5.set _ O',O',?_⟩);rw[t1,t2,bj q' z4,z3];exact qt
   ·(conv=>whnf)
    repeat' (first|apply A2;omega|fail)<;>conv=>whnf
    refine F4 O' ?_;conv=>whnf
    repeat' (first|apply BP;omega|fail)<;>conv=>whnf
    obtain⟨t1,t2⟩:=mL (A:=A) (W:=W') (C:=C) (j:=j) hA g1;refine A9 [] E' (ih j (A++W'++C) (w.set j q') O' ⟨O',hlen W' z1,(D1.append z2).append D3,by simpa using p4,p5.set _ O',O',?_⟩);rw[t1,t2,bj q' z4,z3];exact qt
end Go.Eng

namespace Go.Eng
open F
attribute [local irreducible] AA AF AW AC EC AX BG CM A5 AB A8 AH pw
variable {L:Lib}
theorem uE{k':IntKind}{a:Int}{K:AV->Prop}(hk:K (.int .i64 (a/4294967296))):AC .shr .i64 a k' 32 K:=by
 refine uD O' ?_;have:pw 32=4294967296:=by decide +kernel
 rw[this];exact hk
theorem tN{t:Int}{K:Int->Prop}(hk:K (Z7 t:Int)):A0 .u32 t K:=by
 refine⟨?_⟩;rw[IntKind.wrap_u32,<-lK];exact hk
section
variable {k':IntKind} {a b:Nat} {K:AV->Prop}
theorem Afd{i:Nat}(hi:i<2)(ha:a<4294967296)(hk:K (.int .u64 ((a*4294967296^i:Nat):Int))):AC .shl .u64 (a:Int) k' (32*(i:Int)) K:=by
 rcases i with _|_|i
 ·exact QJ (s:=0) O' O' hk
 ·exact QJ (s:=32) O' O' hk
 ·omega
end
theorem Pz{x y M N:Int}(hx:-M<=x/\x<=M)(hy:-N<=y/\y<=N):-(M*N)<=x*y/\x*y<=M*N:=by
 have h1:x.natAbs<=M.natAbs:=O'
 have h2:y.natAbs<=N.natAbs:=O'
 have h3:=Nat.mul_le_mul h1 h2;rw[<-Eb,<-Eb]at h3;have h4:0<=M*N:=Bd O' O';omega
theorem fQ(N:c6 L)(a b:u_)(q1 q2:Bool)(hA:A1 a)(hB:A1 b)(la:a.length<=549755813888)(lb:b.length<=549755813888)(h0:val b≠0) :
  Ev L 75 [.sl q1 (a.map AJ),.sl q2 (b.map AJ)] (.j4 [.sl false ((dg (val a/val b)).map AJ),.sl false ((dg (val a%val b)).map AJ),.int .i64 0]):=by
 have l1:=FA hA;have l2:=FA hB;have hp:=aD h0;refine Ev.x N.S0 rfl rfl ?_;repeat' (first|apply AG<;>intro hc<;>try omega|apply AP|apply AE|refine L9 (NF N a _ hA O') ?_|refine L9 (NF N b _ hB O') ?_|refine AD (mW N _ _ _ _ h0 O' O') ?_)<;>conv=>whnf
 refine AU rfl ?_;simp only[AY,BI,and_true,true_and];exact⟨CS _,CS _⟩
theorem yV(N:c6 L)(V:Nat)(q:Bool)(hl:(dg V).length<=2):Ev L 76 [.sl q ((dg V).map AJ)] (.int .u64 (V:Int)):=by
 have hV:=NM.1 hl;have hD:=DX V;have hv:=BN V;refine Ev.x N.OX rfl rfl ?_;generalize dg V=l at*;repeat' (first|apply AP|apply AE)<;>conv=>whnf
 refine DT (λi _=>l.length-i) (λ(i:Nat)(a:Nat)=>i<=l.length/\a=val (l.take i)) (λi a=>[(3,.int .u64 (a:Int)),(8,.int .i64 i)]) (λ_ _=>[]) 0 0 ⟨O',rfl⟩ ?_;intro i a ⟨p1,p2⟩ ih;by_cases hi:i<l.length
 ·obtain⟨d,hd⟩:=N' l i hi
  have az:=hD.at hd;have h1:=EB hd;have h2:=FM (hD.take i);have h3:=FM (hD.take (i+1));rw[oa,fc O']at h2 h3;have h4:4294967296^(i+1)<=4294967296^2:=Ed O' O';repeat' (first|apply AG<;>intro hc<;>try omega|apply F3;omega|apply B1;omega|refine A3 V' ?_ rfl ?_;omega|apply AE)<;>conv=>whnf
  refine Afd O' az ?_;conv=>whnf
  rw[Ga d];refine dG (32*i) (by rw[Gd];exact Nat.mul_mod_right _ _) (by rw[Gd,p2];exact h2) O' ?_;conv=>whnf
  repeat' (first|apply AR;omega|fail)<;>conv=>whnf
  exact A9 [] E' (ih (i+1) _ O' ⟨O',by rw[h1,p2]⟩)
 ·obtain rfl:i=l.length:=O'
  clear ih;repeat' (first|apply AG<;>intro hc<;>try omega|apply AE)<;>conv=>whnf
  rw[C8 (ea _)]at p2;exact BM O'
theorem kG{f:Nat}{vs:w_}{tm:Tm}{M:Mem}{K:AV->Mem->Prop}{v:AV}(h:A8 L f vs tm M (λr M'=>r=v/\M'=M))(hk:K v M):A8 L f vs tm M K:=by
 unfold A8 at h⊢;intro σ own hs;obtain⟨r,o8,σ',M',h1,h2,h3,rfl,rfl⟩:=h σ own hs;exact⟨_,o8,σ',_,h1,h2,h3,hk⟩
theorem yU(N:c6 L)(a:u_)(q:Bool)(n s:Nat)(hD:A1 a)(hn:3<=n)(hl:a.length<=n)(Nj:n<=549755813888)(hs:s<=31)(hlt:val a*2^s<4294967296^n) :
  Ev L 78 [.sl q (a.map AJ),.int .i64 (n:Int),.int .u64 (s:Int)] (.int .i64 ((val a/YI n s:Nat):Int)):=by
 have b1:=SG hD (n-1);have b2:=SG hD (n-2);have b3:=SG hD (n-3);have xy:=Ud hD hn hl rfl rfl hlt;have heq:=Uc (s:=s) hD hn hl hs rfl rfl rfl;obtain⟨f1,f2,f3,f4⟩:=WU (s:=s) b3 O';refine Ev.x N.S2 rfl rfl ?_;repeat' (first|apply A2;omega|apply BP;omega|apply AE)<;>conv=>whnf
 refine kG (v := .int .u64 ((a.getD (n-1) 0:Nat):Int)) ?_ ?_
 ·refine IX 1000 N.MV rfl rfl ?_
  repeat' (first|apply AG<;>intro hc<;>try omega|apply B1;omega|apply AP|refine RQ V' ?_ (λe he hb=>?_);omega|apply AE)<;>conv=>whnf
  ·refine⟨rfl,_,rfl,?_,rfl⟩
   rw[show((n:Int)-1).toNat=n-1 by omega]at he;rw[H7 he];rfl
  ·refine⟨rfl,_,rfl,?_,rfl⟩
   rw[<-getD_none (show a.length<=n-1 by omega)];rfl
 (conv=>whnf)
 repeat' (first|apply A2;omega|apply BP;omega|apply OA;omega)<;>conv=>whnf
 refine kG (v := .int .u64 ((a.getD (n-2) 0:Nat):Int)) ?_ ?_
 ·refine IX 1000 N.MV rfl rfl ?_
  repeat' (first|apply AG<;>intro hc<;>try omega|apply B1;omega|apply AP|refine RQ V' ?_ (λe he hb=>?_);omega|apply AE)<;>conv=>whnf
  ·refine⟨rfl,_,rfl,?_,rfl⟩
   rw[show((n:Int)-2).toNat=n-2 by omega]at he;rw[H7 he];rfl
  ·refine⟨rfl,_,rfl,?_,rfl⟩
   rw[<-getD_none (show a.length<=n-2 by omega)];rfl
 (conv=>whnf)
 generalize a.getD (n-1) 0=d1 at*;generalize a.getD (n-2) 0=d2 at*;repeat' (first|apply QH;omega|fail)<;>conv=>whnf
 refine QJ O' xy ?_;conv=>whnf
 generalize hT:(d1*4294967296+d2)*2^s=T at*;repeat' (first|apply A2;omega|apply BP;omega)<;>conv=>whnf
 refine kG (v := .int .u64 ((a.getD (n-3) 0:Nat):Int)) ?_ ?_
 ·refine IX 1000 N.MV rfl rfl ?_
  repeat' (first|apply AG<;>intro hc<;>try omega|apply B1;omega|apply AP|refine RQ V' ?_ (λe he hb=>?_);omega|apply AE)<;>conv=>whnf
  ·refine⟨rfl,_,rfl,?_,rfl⟩
   rw[show((n:Int)-3).toNat=n-3 by omega]at he;rw[H7 he];rfl
  ·refine⟨rfl,_,rfl,?_,rfl⟩
   rw[<-getD_none (show a.length<=n-3 by omega)];rfl
 (conv=>whnf)
 generalize a.getD (n-3) 0=d3 at*;skip
 refine QJ O' f4 ?_;conv=>whnf
 (repeat' (apply GD<;>conv=>whnf))
 rw[WT]at f2;refine uB s (by rw[<-hT];exact xd _ _) f2 (by have:=iD (k:=d1*4294967296+d2) (show s<=64 by omega) O';omega) ?_;conv=>whnf
 repeat' (first|apply Ae9|apply RM;omega)<;>conv=>whnf
 rw[heq];exact BM rfl
theorem AiX(N:c6 L)(P Q:Int)(hP:0<=P/\P<=4611686018427387904)(hQ:0<=Q/\Q<=4611686018427387904):∃r,Ev L 79 [.int .i64 P,.int .i64 Q] r/\∃a b c d:Int,(kI a b c d/\(-2147483647<=a/\a<=2147483647)/\(-2147483647<=b/\b<=2147483647)/\(-2147483647<=c/\c<=2147483647)/\(-2147483647<=d/\d<=2147483647))/\(b≠0->ZP P Q a b c d)/\r = .j4 [.int .i64 a,.int .i64 b,.int .i64 c,.int .i64 d]:=by
 refine Ev.xE N.OU rfl rfl ?_;(repeat' (apply AE<;>conv=>whnf))
 refine Aej (λ_ _ _ _ _ q=>(q+2147483648).toNat) (λ(a b c d p q:Int)=>U5 P Q a b c d p q/\((-2147483647<=a/\a<=2147483647)/\(-2147483647<=b/\b<=2147483647)/\(-2147483647<=c/\c<=2147483647)/\(-2147483647<=d/\d<=2147483647))/\(p<=4611686018427387904/\q<=4611686018427387904)/\XH P Q a b c d/\(b≠0->ZP P Q a b c d)) (λa b c d p q=>[(0,.int .i64 p),(1,.int .i64 q),(4,.int .i64 a),(5,.int .i64 b),(6,.int .i64 c),(7,.int .i64 d)]) (λ_ _ _ _ _ _=>[]) [] [] 1 0 0 1 P Q E' ⟨U5.start hP.1 hQ.1,O',O',XH.start P Q,λh=>absurd rfl h⟩ ?_;intro a b c d p q ⟨p1,⟨⟨p2,p2'⟩,⟨p3,p3'⟩,⟨p4,p4'⟩,⟨p5,p5'⟩⟩,⟨p6,p7⟩,p8,p9⟩ ih;have g1:=p1.pa;have g2:=p1.pb;have g3:=p1.qc;have g4:=p1.qd;by_cases dz:q+c=0
 ·repeat' (first|apply AG<;>intro hc<;>try omega|apply AR;omega|apply AE)<;>conv=>whnf
  refine⟨.j4 [.int .i64 a,.int .i64 b,.int .i64 c,.int .i64 d],?_,a,b,c,d,⟨p1.sg,O'⟩,p9,rfl⟩;conv=>whnf
  exact AU rfl (by simp[AY,BI])
 by_cases qa:q+d=0
 ·repeat' (first|apply AG<;>intro hc<;>try omega|apply AR;omega|apply AE)<;>conv=>whnf
  refine⟨.j4 [.int .i64 a,.int .i64 b,.int .i64 c,.int .i64 d],?_,a,b,c,d,⟨p1.sg,O'⟩,p9,rfl⟩;conv=>whnf
  exact AU rfl (by simp[AY,BI])
 by_cases hff:(p+a)/(q+c)=(p+b)/(q+d)
 ·obtain⟨s1,s2,s3,s4⟩:=p1.step dz qa rfl hff
  have s5:=s4 p8;have s6:=s5.half;have s7:=s1.qc;by_cases iq:2147483647<(p+a)/(q+c)
  ·repeat' (first|apply AG<;>intro hc<;>try omega|apply AR;omega|(refine KM ?_ ?_ (λ_=>?_) (λ_ _=>?_);omega;omega;all_goals try omega)|apply AE)<;>conv=>whnf
   refine⟨.j4 [.int .i64 a,.int .i64 b,.int .i64 c,.int .i64 d],?_,a,b,c,d,⟨p1.sg,O'⟩,p9,rfl⟩;conv=>whnf
   exact AU rfl (by simp[AY,BI])
  ·have t1:=Pz (x:=(p+a)/(q+c)) (y:=c) (M:=2147483647) (N:=2147483647) O' O'
   have t2:=Pz (x:=(p+a)/(q+c)) (y:=d) (M:=2147483647) (N:=2147483647) O' O';repeat' (first|apply AG<;>intro hc<;>try omega|apply AR;omega|apply BP;omega|apply F3;omega|(refine KM ?_ ?_ (λ_=>?_) (λ_ _=>?_);omega;omega;all_goals try omega)|apply EC.neg;omega|apply AE)<;>conv=>whnf
   all_goals first
    |exact A9 [] E' (ih _ _ _ _ _ _ O' ⟨s1,O',O',s6,λ_=>s5⟩)
    |(refine⟨.j4 [.int .i64 a,.int .i64 b,.int .i64 c,.int .i64 d],?_,a,b,c,d,⟨p1.sg,O'⟩,p9,rfl⟩
      (conv=>whnf)
      exact AU rfl (by simp[AY,BI]))
 ·repeat' (first|apply AG<;>intro hc<;>try omega|apply AR;omega|(refine KM ?_ ?_ (λ_=>?_) (λ_ _=>?_);omega;omega;all_goals try omega)|apply AE)<;>conv=>whnf
  refine⟨.j4 [.int .i64 a,.int .i64 b,.int .i64 c,.int .i64 d],?_,a,b,c,d,⟨p1.sg,O'⟩,p9,rfl⟩;conv=>whnf
  exact AU rfl (by simp[AY,BI])
theorem AiY(N:c6 L)(x y:u_)(q1 q2:Bool)(f g:Int)(hX:A1 x)(hY:A1 y)(hl:y.length<=x.length)(lx:x.length<=549755813888)(hs:RL f g)(R:Nat)(hR:(R:Int)=f*val x+g*val y)(hR2:R<=val x) :
  Ev L 80 [.sl q1 (x.map AJ),.sl q2 (y.map AJ),.int .i64 f,.int .i64 g] (.sl false ((dg R).map AJ)):=by
 refine Ev.x N.OV rfl rfl ?_;repeat' (first|apply AP|apply AE)<;>conv=>whnf
 refine E6 (enc:=AJ) 0 x.length rfl rfl O' ?_;conv=>whnf
 (repeat' (apply AP<;>conv=>whnf))
 refine FP (λi _ _=>x.length-i) (λ(i:Nat)(o:u_)(c:Int)=>i<=x.length/\o.length=x.length/\A1 o/\-2147483648<=c/\c<=2147483648/\(val (o.take i):Int)+((4294967296^i:Nat):Int)*c=f*val (x.take i)+g*val (y.take i)) (λi o c=>[(10,.int .i64 c),(19,.int .i64 i)]) (λi o c=>[(16,16,.rw 1 (o.map AJ))]) 0 (ga x.length 0) 0 ⟨O',Z',KS _,O',O',by simp[val]⟩ ?_;intro i o c ⟨p1,p2,p3,p4,p5,p6⟩ ih;by_cases hi:i<x.length
 ·obtain⟨d,hd⟩:=N' x i hi
  have az:=hX.at hd;have h1:=EB hd;by_cases hy:i<y.length
  ·obtain⟨e,he⟩:=N' y i hy
   have Mo:=hY.at he;have h2:=EB he;obtain⟨r1,r2,r3⟩:=hs.Hz az Mo;have o4:=vS (d:=d) (e:=e) p6 rfl;repeat' (first|apply AG<;>intro hc<;>try omega|apply AR;omega|apply F3;omega|apply RM;omega|apply AP|refine A3 V' ?_ rfl ?_;omega|apply AE)<;>conv=>whnf
   generalize htt:f * ↑d+c+g * ↑e=t at*;refine tN ?_;conv=>whnf
   repeat' (first|apply A2;omega|fail)<;>conv=>whnf
   refine F4 O' ?_;conv=>whnf
   refine uE ?_;conv=>whnf
   repeat' (first|apply AR;omega|fail)<;>conv=>whnf
   refine A9 [] E' (ih (i+1) _ _ O' ⟨O',by simpa using p2,p3.set _ (vR t),O',O',?_⟩);rw[HD O',h1,h2,Ha];simp only[ec,Hb,lK];exact o4
  ·have h2:=kD (y:=y) (i:=i) O'
   obtain⟨r1,r2,r3⟩:=hs.Hz (e:=0) az O';have o4:=vS (d:=d) (e:=0) p6 rfl;rw[Fg,Ef]at o4;have r4:-9223372030412324865<=f*(d:Int)/\f*(d:Int)<=9223372030412324865:=r1;repeat' (first|apply AG<;>intro hc<;>try omega|apply AR;omega|apply F3;omega|apply RM;omega|apply AP|refine A3 V' ?_ rfl ?_;omega|apply AE)<;>conv=>whnf
   generalize htt:f * ↑d+c=t at*;refine tN ?_;conv=>whnf
   repeat' (first|apply A2;omega|fail)<;>conv=>whnf
   refine F4 O' ?_;conv=>whnf
   refine uE ?_;conv=>whnf
   repeat' (first|apply AR;omega|fail)<;>conv=>whnf
   refine A9 [] E' (ih (i+1) _ _ O' ⟨O',by simpa using p2,p3.set _ (vR t),O',O',?_⟩);rw[HD O',h1,h2,Ha];simp only[ec,Hb,lK];rw[Fg,Ef]at o4;exact o4
 ·obtain rfl:i=x.length:=O'
  clear ih;rw[C8 O',C8 (ea _),C8 O']at p6;have hov:=FM p3;have Cq:=FM hX;rw[p2]at hov;have hVR:val o=R:=by
   have:=AgG hov p6 O' O'
   omega
  have gq:=FA p3;rw[<-p2,<-hVR];repeat' (first|apply AG<;>intro hc<;>try omega|apply AE|refine cT N V' O' rfl (by first|rfl|omega|assumption) ?_)<;>conv=>whnf
  refine HQ (enc:=AJ) (λ_=>rfl) O' ?_;conv=>whnf
  refine AU ?_ (by simp only[AY,true_and];exact CS _);rw[ya,cJ p3]
theorem Ai1(N:c6 L)(X Y:Nat)(uo:Y<=X)(hy:3<=(dg Y).length)(lx:(dg X).length<=549755813888):∃r,Ev L 81 [.sl false ((dg X).map AJ),.sl false ((dg Y).map AJ)] r/\∃A B:Nat,(B<Y/\B<=A/\A<=X/\Pa A B=Pa X Y)/\r = .j4 [.sl false ((dg A).map AJ),.sl false ((dg B).map AJ)]:=by
 have hY0:Y≠0:=λh=>by rw[h,FJ]at hy;simp at hy
 have xp:X≠0:=O'
 have hlen:=R2 uo;have xx:=λq q'=>mW N X Y q q' hY0 lx O'
 have d1:=DX X;have d2:=DX Y;have v1:=BN X;have v2:=BN Y;obtain⟨xt,Ow,Ox⟩:=lZ xp;have Ho:=d1.at Ow;obtain⟨b1,b2,b3,b4⟩:=pD Ox Ho;have Gf:=yF N xt Ho;generalize hs:32-u7 xt=s at*;have fb:s<=31:=O'
 obtain⟨n1,n2⟩:=oU d1 Ow O' fb b3 b4;have tk:=λ(f g:Int)(R:Nat)(hs:RL f g)(h1:(R:Int)=f*val (dg X)+g*val (dg Y))(h2:R<=val (dg X))(q q':Bool)=>AiY N (dg X) (dg Y) q q' f g d1 d2 O' lx hs R h1 h2
 have n3:val (dg Y)*2^s<4294967296^(dg X).length:=Nat.lt_of_le_of_lt (zR _ O') n1;have gq:=λq=>yU N (dg X) q (dg X).length s d1 O' O' lx fb n1
 have iu:=λq=>yU N (dg Y) q (dg X).length s d2 O' O' lx fb n3
 have hK:=Alm (dg X).length s;obtain⟨e1,x1,x2,x3⟩:=Uf (V:=X) hK;obtain⟨e2,y1,y2,y3⟩:=Uf (V:=Y) hK;rw[v1]at gq;rw[v2]at iu;have wu:=Ue d1 (n:=(dg X).length) O' O' fb n1;have Ds:=Ue d2 (n:=(dg X).length) O' O' fb n3;rw[v1]at wu;rw[v2]at Ds;generalize YI (dg X).length s=K at*;generalize X/K=P at*;generalize Y/K=Q at*;rw[v1,v2]at tk;obtain⟨rc,hrc,a,b,c,d,⟨z1,z2,z3,z4,z5⟩,z6,rfl⟩:=AiX N (P:Int) (Q:Int) O' O';have e1:(((dg X).length:Int)-1).toNat=(dg X).length-1:=O'
 rw[<-e1]at Ow;refine Ev.xE N.S3 rfl rfl ?_;by_cases hb:b=0
 ·repeat' (first|apply AG<;>intro hc<;>try omega|apply BP;omega|apply B1;omega|apply AP|refine A3 V' ?_ rfl ?_;omega|apply AE|refine AD (Gf) ?_|refine AD (gq _) ?_|refine AD (iu _) ?_|refine AD (hrc) ?_|refine AD (xx _ _) ?_)<;>conv=>whnf
  refine⟨_,?_,Y,X%Y,⟨da _ O',pd (da _ O'),uo,aS X Y⟩,rfl⟩;conv=>whnf
  exact AU rfl (Z5 _ _)
 ·obtain⟨g1,g2,g3,g4⟩:=z6 hb (X:Int) (Y:Int) (K:Int) _ _ O' x1 y1 x2 x3 y2 y3
  obtain⟨A,hA⟩:=ob (show 0<=a*X+b*Y by omega);obtain⟨B,hB⟩:=ob g1;have s1:RL a b:=by rcases z1 with⟨h1,h2,h3,h4⟩|⟨h1,h2,h3,h4⟩<;>unfold RL<;>omega
  have s2:RL c d:=by rcases z1 with⟨h1,h2,h3,h4⟩|⟨h1,h2,h3,h4⟩<;>unfold RL<;>omega
  repeat' (first|apply AG<;>intro hc<;>try omega|apply BP;omega|apply B1;omega|apply AP|refine A3 V' ?_ rfl ?_;omega|apply AE|refine AD (Gf) ?_|refine AD (gq _) ?_|refine AD (iu _) ?_|refine AD (hrc) ?_|refine AD (tk a b A s1 hA.symm O' _ _) ?_|refine AD (tk c d B s2 hB.symm O' _ _) ?_)<;>conv=>whnf
  rw[hA,hB]at g4;rw[hA,hB]at g2;refine⟨_,?_,A,B,⟨O',O',O',by simpa using g4⟩,rfl⟩;conv=>whnf
  exact AU rfl (Z5 _ _)
theorem Qd(N:c6 L)(X Y:Nat)(uo:Y<=X)(lx:(dg X).length<=549755813888) :
 AA L [It.lp H9.l1,It.c9 0,
   It.code
    ((((BF.ops H9.r6 false).dr [23,30,31] []).seq
       (BF.cond 32 (((BF.ops H9.r7 false).dr [5,6,32,33] []).seq BF.ret) BF.skip)).seq
     (((BF.ops H9.r8 false).dr [5,7,32,34,35,36,37,38,39] []).seq
      (((BF.ops H9.r9 false).dr [6,8,40,41,42,43] []).seq
       ((BF.block 2 H9.l2.loop).seq
        (((BF.ops H9.An false).dr [9,10,45,50,51,52,53,54,55,56] []).seq BF.ret)))))]
  [(6,AV.sl false (Fb AJ (dg Y))),(5,AV.sl false (Fb AJ (dg X)))] []
  (QK H9 (AV.sl false (Fb AJ (dg (X.gcd Y))))):=by
 refine DT (λ_ y=>y) (λ(x y:Nat)=>y<=x/\(dg x).length<=549755813888/\Pa x y=Pa X Y) (λx y=>[(6,AV.sl false (Fb AJ (dg y))),(5,AV.sl false (Fb AJ (dg x)))]) (λ_ _=>[]) X Y ⟨uo,lx,rfl⟩ ?_;intro x y ⟨p1,p2,p3⟩ ih;rw[<-p3]at ih⊢;generalize Pa X Y=G at*;clear uo lx;subst p3;have hlen:=R2 p1;by_cases h3:3<=(dg y).length
 ·obtain⟨r,hr,A,B,⟨k1,k2,k3,k4⟩,rfl⟩:=Ai1 N x y p1 h3 p2
  have k5:=R2 k3;repeat' (first|apply AG<;>intro hc<;>try omega|apply AP|apply AE|refine AD (hr) ?_)<;>conv=>whnf
  exact BC [] (ih A B k1 ⟨k2,O',k4⟩)
 ·clear ih
  by_cases h0:y=0
  ·subst h0
   have hl0:(dg 0).length=0:=by rw[FJ];rfl
   repeat' (first|apply AG<;>intro hc<;>try omega|apply AP|apply AE)<;>conv=>whnf
   rw[ue];exact AU rfl (by simp only[AY,true_and];exact CS _)
  ·have hp:=aD h0
   have hm:=R2 (pd (da x (show y>0 by omega)));have hd:=λq q'=>mW N x y q q' h0 p2 O'
   have Ad:=λq=>yV N y q O'
   have yl:=λq=>yV N (x%y) q O'
   have hb:y<18446744073709551616:=NM.1 (show(dg y).length<=2 by omega);have tu:x%y<y:=da _ O';rw[<-aS x y];repeat' (first|apply AG<;>intro hc<;>try omega|apply AP|apply AE|refine AD (hd _ _) ?_|refine AD (Ad _) ?_|refine AD (yl _) ?_)<;>conv=>whnf
   refine ZI (λ_ q=>q) (λ(p q:Nat)=>p<18446744073709551616/\q<18446744073709551616/\Pa p q=Pa y (x%y)) (λp q=>[(9,.int .u64 (p:Int)),(10,.int .u64 (q:Int))]) (λ_ _=>[]) [] [] y (x%y) E' ⟨hb,O',rfl⟩ ?_;intro p q ⟨g1,g2,g3⟩ ih;rw[<-g3]at ih⊢;by_cases hq:q=0
   ·subst hq
    clear ih;obtain⟨v1,v2⟩:=lW g1;rw[ue];have gq:=FA v2;have ht:=cJ v2;rw[v1]at gq ht;repeat' (first|apply AG<;>intro hc<;>try omega|apply GD|apply EP;omega|apply GV|apply AE)<;>conv=>whnf
    generalize p%4294967296=lo at*;generalize p/4294967296=hi at*;refine cT N v2 Z' rfl rfl ?_;rw[v1];conv=>whnf
    skip
    refine HQ (enc:=AJ) (l:=[lo,hi]) (λ_=>rfl) O' ?_;conv=>whnf
    refine AU ?_ (by simp only[AY,true_and];exact CS _);rw[ya,ht]
   ·have hpq:p%q<q:=da _ O'
    repeat' (first|apply AG<;>intro hc<;>try omega|apply ZR;omega|apply AE)<;>conv=>whnf
    exact BC [] (ih q (p%q) hpq ⟨g2,O',aS p q⟩)
theorem AiW(N:c6 L)(a b:u_)(q1 q2:Bool)(hA:A1 a)(hB:A1 b)(la:a.length<=549755813888)(lb:b.length<=549755813888) :
  Ev L 82 [.sl q1 (a.map AJ),.sl q2 (b.map AJ)] (.sl false ((dg (Pa (val a) (val b))).map AJ)):=by
 have t1:=λq=>aG N a q hA O'
 have t2:=λq=>aG N b q hB O'
 have l1:=FA hA;have l2:=FA hB;have hcmp:=λq q'=>QW N (dg (val a)) (dg (val b)) q q' (DX _) (DX _) O' O'
 rw[BN,BN]at hcmp;generalize val a=X at*;generalize val b=Y at*;refine Ev.x N.H9 rfl rfl ?_;by_cases hlt:X<Y
 ·have hn:C4 X Y = -1:=(J2 O').symm
  rw[hn]at hcmp;repeat' (first|apply AG<;>intro hc<;>try omega|apply AE|refine AD (t1 _) ?_|refine AD (t2 _) ?_|refine AD (hcmp _ _) ?_)<;>conv=>whnf
  rw[Jf];exact A9 [] E' (Qd N Y X O' O')
 ·have ic:0<=C4 X Y:=by unfold C4;split<;>(try split)<;>omega
  generalize C4 X Y=cm at*;repeat' (first|apply AG<;>intro hc<;>try omega|apply AE|refine AD (t1 _) ?_|refine AD (t2 _) ?_|refine AD (hcmp _ _) ?_)<;>conv=>whnf
  exact A9 [] E' (Qd N X Y O' O')
end Go.Eng

namespace Go.Eng
open F
attribute [local irreducible] AA AF AW AC EC A5 AB A8 AH pw AX CG
variable {L:Lib}
theorem AeV{k:Nat}{K:Int->Prop}(h:0<k/\k<=9223372036854775808)(hk:K ((18446744073709551616-k:Nat):Int)):A0 .u64 (-(k:Int)) K:=by
 refine⟨?_⟩;have e:IntKind.u64.wrap (-(k:Int))=((18446744073709551616-k:Nat):Int):=by
  simp[IntKind.wrap,IntKind.bits,IntKind.signed];omega
 rw[e];exact hk
theorem EC.Hw{k:Nat}{K:AV->Prop}(h:0<k/\k<=9223372036854775808)(hk:K (.int .u64 (k:Int))):EC .neg .u64 ((18446744073709551616-k:Nat):Int) K:=by
 refine EC.go (v := .int .u64 (IntKind.u64.wrap (0-((18446744073709551616-k:Nat):Int)))) rfl ?_;have e:IntKind.u64.wrap (0-((18446744073709551616-k:Nat):Int))=(k:Int):=by
  simp[IntKind.wrap,IntKind.bits,IntKind.signed];omega
 rw[e];exact hk
theorem mS(N:a6 L)(z:Int)(hz:-9223372036854775808<=z/\z<=9223372036854775807):Ev L 85 [.int .i64 z] (.agg (eZ z)):=by
 have two:∀k:Nat,k<18446744073709551616->∀q,Ev L 66 [.sl q [[.int .u32 ((k%4294967296:Nat):Int)],[.int .u32 ((k/4294967296:Nat):Int)]]] (.sl false ((dg k).map AJ)):=λk hk q=>by
  have:=aG N.toc6 [k%4294967296,k/4294967296] q (lW hk).2 Z'
  rw[Ym hk]at this;exact this
 refine Ev.x N.SM rfl rfl ?_;by_cases h0:0<=z
 ·obtain⟨k,rfl⟩:=ob h0
  have hT:=two k O';have z1:=IH k;repeat' (first|apply AG<;>intro hc<;>try omega|apply GD|apply B1;omega|apply EP;omega|apply GV|refine ZW rfl rfl ?_|apply AE)<;>conv=>whnf
  generalize k%4294967296=lo at*;generalize k/4294967296=hi at*;(repeat' (refine AD (hT _) ?_<;>conv=>whnf))
  refine EK 1000 N.CH rfl rfl ?_;(repeat' (apply AE<;>conv=>whnf))
  all_goals (refine⟨rfl,?_⟩;(conv=>whnf);skip)
  exact AU (E7 O' (FZ O')) (DM _)
 ·obtain⟨k,hk⟩:=ob (show 0 <= -z by omega)
  obtain rfl:z = -(k:Int):=O'
  have hT:=two k O';have z1:=IH k;(repeat' (apply AE<;>conv=>whnf))
  refine AeV O' ?_;conv=>whnf
  repeat' (first|apply AG<;>intro hc<;>try omega|fail)<;>conv=>whnf
  refine EC.Hw O' ?_;conv=>whnf
  repeat' (first|apply AG<;>intro hc<;>try omega|apply GD|apply EP;omega|apply GV|refine ZW rfl rfl ?_)<;>conv=>whnf
  generalize k%4294967296=lo at*;generalize k/4294967296=hi at*;(repeat' (refine AD (hT _) ?_<;>conv=>whnf))
  refine EK 1000 N.CH rfl rfl ?_;repeat' (first|apply AG<;>intro hc<;>try omega|apply AP|apply AE)<;>conv=>whnf
  all_goals (refine⟨rfl,?_⟩;(conv=>whnf);skip)
  exact AU (E7 O' (L3 O')) (DM _)
theorem yP(N:a6 L)(n q:Bool)(m:u_)(hm:Sm 549755813888 m):Ev L 84 [.agg (rZ q n m)] (.agg (eZ (zv n m))):=by
 have hT:=λq=>aG N.toc6 m q hm.1 (by have:=hm.2;omega)
 have hz:=IH (val m);have ha:=FH n m;refine Ev.x N.SP rfl rfl ?_;cases n
 ·rw[E4]at*
  repeat' (first|apply AE|refine AD (hT _) ?_)<;>conv=>whnf
  refine EK 1000 N.CH rfl rfl ?_;(repeat' (apply AE<;>conv=>whnf))
  all_goals (refine⟨rfl,?_⟩;(conv=>whnf);skip)
  exact AU (E7 ha.symm (FZ O')) (DM _)
 ·rw[N8]at*
  repeat' (first|apply AE|refine AD (hT _) ?_)<;>conv=>whnf
  refine EK 1000 N.CH rfl rfl ?_;repeat' (first|apply AG<;>intro hc<;>try omega|apply AP|apply AE)<;>conv=>whnf
  all_goals (refine⟨rfl,?_⟩;(conv=>whnf);skip)
  ·exact AU (E7 ha.symm (L3 O')) (DM _)
  ·exact AU (E7 ha.symm (FZ O')) (DM _)
theorem fP(N:a6 L)(n q:Bool)(m:u_)(hm:Sm 549755813888 m):Ev L 86 [.agg (rZ q n m)] (.int .i64 (v7 (zv n m))):=by
 have hcmp:=λq q'=>QW N.toc6 m [] q q' hm.1 X4 (by have:=hm.2;omega) Z'
 rw[KH]at hcmp;refine Ev.x N.SN rfl rfl ?_;by_cases h0:val m=0
 ·have hn:C4 (val m) (0:Nat)=0:=(VQ O').symm
  rw[hn]at hcmp;repeat' (first|apply AG<;>intro hc<;>try omega|apply AE|refine AD (hcmp _ _) ?_)<;>conv=>whnf
  exact BM (jI (by have:=FH n m;omega))
 ·have hn:C4 (val m) (0:Nat)=1:=(OI O').symm
  rw[hn]at hcmp;cases n
  ·repeat' (first|apply AG<;>intro hc<;>try omega|apply AE|refine AD (hcmp _ _) ?_)<;>conv=>whnf
   exact BM (rP (by rw[E4];omega))
  ·repeat' (first|apply AG<;>intro hc<;>try omega|apply AE|refine AD (hcmp _ _) ?_)<;>conv=>whnf
   exact BM (rO (by rw[N8];omega))
theorem yN(N:a6 L)(n1 n2 q1 q2:Bool)(a b:u_)(ha:Sm 549755813888 a)(hb:Sm 549755813888 b):Ev L 87 [.agg (rZ q1 n1 a),.agg (rZ q2 n2 b)] (.agg (eZ (zv n1 a+zv n2 b))):=by
 have la:=ha.2;have lb:=hb.2;have h1:=λq q'=>yT N.toc6 a b q q' ha.1 hb.1 O' O'
 have h2:=λq q'=>mV N.toc6 a b q q' ha.1 hb.1 O' O'
 have h3:=λq q'=>mV N.toc6 b a q q' hb.1 ha.1 O' O'
 have hcmp:=λq q'=>QW N.toc6 a b q q' ha.1 hb.1 O' O'
 have z1:=IH (val a+val b);have z2:=IH (val a-val b);have z3:=IH (val b-val a);refine Ev.x N.SJ rfl rfl ?_;by_cases hlt:val a<val b
 ·have hn:C4 (val a) (val b) = -1:=(J2 O').symm
  rw[hn]at hcmp;cases n1<;>cases n2<;>simp only[E4,N8]
  ·repeat' (first|apply AE|refine AD (h1 _ _) ?_)<;>conv=>whnf
   refine EK 1000 N.CH rfl rfl ?_;(repeat' (apply AE<;>conv=>whnf))
   all_goals (refine⟨rfl,?_⟩;(conv=>whnf);skip)
   exact AU (E7 O' (FZ O')) (DM _)
  ·repeat' (first|apply AG<;>intro hc<;>try omega|apply AE|refine AD (h3 _ _) ?_|refine AD (hcmp _ _) ?_)<;>conv=>whnf
   refine EK 1000 N.CH rfl rfl ?_;repeat' (first|apply AG<;>intro hc<;>try omega|apply AP|apply AE)<;>conv=>whnf
   all_goals (refine⟨rfl,?_⟩;(conv=>whnf);skip)
   ·exact AU (E7 O' (L3 O')) (DM _)
  ·repeat' (first|apply AG<;>intro hc<;>try omega|apply AE|refine AD (h3 _ _) ?_|refine AD (hcmp _ _) ?_)<;>conv=>whnf
   refine EK 1000 N.CH rfl rfl ?_;(repeat' (apply AE<;>conv=>whnf))
   all_goals (refine⟨rfl,?_⟩;(conv=>whnf);skip)
   ·exact AU (E7 O' (FZ O')) (DM _)
  ·repeat' (first|apply AE|refine AD (h1 _ _) ?_)<;>conv=>whnf
   refine EK 1000 N.CH rfl rfl ?_;repeat' (first|apply AG<;>intro hc<;>try omega|apply AP|apply AE)<;>conv=>whnf
   all_goals (refine⟨rfl,?_⟩;(conv=>whnf);skip)
   ·exact AU (E7 O' (L3 O')) (DM _)
 ·have hn:C4 (val a) (val b) ≠ -1:=by unfold C4;split<;>(try split)<;>omega
  generalize C4 (val a) (val b)=cm at*;cases n1<;>cases n2<;>simp only[E4,N8]
  ·repeat' (first|apply AE|refine AD (h1 _ _) ?_)<;>conv=>whnf
   refine EK 1000 N.CH rfl rfl ?_;(repeat' (apply AE<;>conv=>whnf))
   all_goals (refine⟨rfl,?_⟩;(conv=>whnf);skip)
   exact AU (E7 O' (FZ O')) (DM _)
  ·repeat' (first|apply AG<;>intro hc<;>try omega|apply AE|refine AD (h2 _ _) ?_|refine AD (hcmp _ _) ?_)<;>conv=>whnf
   refine EK 1000 N.CH rfl rfl ?_;(repeat' (apply AE<;>conv=>whnf))
   all_goals (refine⟨rfl,?_⟩;(conv=>whnf);skip)
   exact AU (E7 O' (FZ O')) (DM _)
  ·repeat' (first|apply AG<;>intro hc<;>try omega|apply AE|refine AD (h2 _ _) ?_|refine AD (hcmp _ _) ?_)<;>conv=>whnf
   refine EK 1000 N.CH rfl rfl ?_;repeat' (first|apply AG<;>intro hc<;>try omega|apply AP|apply AE)<;>conv=>whnf
   all_goals (refine⟨rfl,?_⟩;(conv=>whnf);skip)
   ·exact AU (E7 O' (L3 O')) (DM _)
   ·exact AU (E7 O' (FZ O')) (DM _)
  ·repeat' (first|apply AE|refine AD (h1 _ _) ?_)<;>conv=>whnf
   refine EK 1000 N.CH rfl rfl ?_;repeat' (first|apply AG<;>intro hc<;>try omega|apply AP|apply AE)<;>conv=>whnf
   all_goals (refine⟨rfl,?_⟩;(conv=>whnf);skip)
   ·exact AU (E7 O' (L3 O')) (DM _)
   ·exact AU (E7 O' (FZ O')) (DM _)
theorem V0(N:a6 L)(n1 n2 q1 q2:Bool)(a b:u_)(ha:A1 a)(hb:A1 b)(hl:a.length+b.length<=1099511627776):Ev L 88 [.agg (rZ q1 n1 a),.agg (rZ q2 n2 b)] (.agg (eZ (zv n1 a*zv n2 b))):=by
 have h1:=λq q'=>mU N.toc6 a b q q' ha hb hl
 have z1:=IH (val a*val b);have Ly:(zv n1 a*zv n2 b).natAbs=val a*val b:=by rw[Eb,FH,FH]
 refine Ev.x N.SL rfl rfl ?_;have e:zv n1 a*zv n2 b=bif n1 == n2 then((val a*val b:Nat):Int)else -((val a*val b:Nat):Int):=by
  cases n1<;>cases n2<;>simp[E4,N8,ze,Df]
 rw[e]at Ly⊢;generalize val a*val b=V at*;cases n1<;>cases n2<;>simp only[beq_self_eq_true,cond_true,show(false == true)=false from rfl,show(true == false)=false from rfl,cond_false]
 ·repeat' (first|apply AE|refine AD (h1 _ _) ?_)<;>conv=>whnf
  refine EK 1000 N.CH rfl rfl ?_;(repeat' (apply AE<;>conv=>whnf))
  all_goals (refine⟨rfl,?_⟩;(conv=>whnf);skip)
  exact AU (E7 O' (FZ O')) (DM _)
 ·repeat' (first|apply AE|refine AD (h1 _ _) ?_)<;>conv=>whnf
  refine EK 1000 N.CH rfl rfl ?_;repeat' (first|apply AG<;>intro hc<;>try omega|apply AP|apply AE)<;>conv=>whnf
  all_goals (refine⟨rfl,?_⟩;(conv=>whnf);skip)
  ·exact AU (E7 O' (L3 O')) (DM _)
  ·exact AU (E7 O' (FZ O')) (DM _)
 ·repeat' (first|apply AE|refine AD (h1 _ _) ?_)<;>conv=>whnf
  refine EK 1000 N.CH rfl rfl ?_;repeat' (first|apply AG<;>intro hc<;>try omega|apply AP|apply AE)<;>conv=>whnf
  all_goals (refine⟨rfl,?_⟩;(conv=>whnf);skip)
  ·exact AU (E7 O' (L3 O')) (DM _)
  ·exact AU (E7 O' (FZ O')) (DM _)
 ·repeat' (first|apply AE|refine AD (h1 _ _) ?_)<;>conv=>whnf
  refine EK 1000 N.CH rfl rfl ?_;(repeat' (apply AE<;>conv=>whnf))
  all_goals (refine⟨rfl,?_⟩;(conv=>whnf);skip)
  exact AU (E7 O' (FZ O')) (DM _)
theorem lY:dg 1=[1]:=by rw[KR O'];simp[FJ]
theorem AiS(N:a6 L)(V:Nat)(q:Bool):Ev L 90 [.sl q ((dg V).map AJ)] (.bool (decide (V=1))):=by
 have hv:=BN V;have hD:=DX V;have h1:V=1->dg V=[1]:=λh=>by rw[h,lY]
 generalize dg V=l at*;refine Ev.x N.TM rfl rfl ?_;by_cases hl:l.length=1
 ·obtain⟨d,rfl⟩:=xc.1 hl
  have e:V=d:=by rw[<-hv];simp[val]
  subst e;have hd:[V][(0:Int).toNat]?=some V:=rfl;repeat' (first|apply AG<;>intro hc<;>try omega|apply AP|refine A3 V' ?_ rfl ?_;omega|apply AE)<;>conv=>whnf
  ·exact QE O'
  ·exact MA O'
 ·repeat' (first|apply AG<;>intro hc<;>try omega|apply AP|apply AE)<;>conv=>whnf
  exact MA (λh=>by rw[h1 h]at hl;simp at hl)
theorem X8(N:a6 L)(n q1 q2:Bool)(m d:u_)(hm:Sm 549755813888 m)(hd:Sm 549755813888 d)(h0:val d≠0):Ev L 94 [.agg (rQ q1 q2 n m d)] (.agg (eQ (qv n m d))):=by
 have Cw:=λq q'=>fQ N.toc6 m d q q' hm.1 hd.1 hm.2 hd.2 h0
 have Jx:=FH n m;have sq:Sm 549755813888 (dg (val m/val d)):=hm.low (Ae _ _);have sr:Sm 549755813888 (dg (val m%val d)):=hd.low (pd (da _ O'));have hT:=λq=>yP N n q _ sq
 have hG:=λq q'=>AiW N.toc6 d (dg (val m%val d)) q q' hd.1 sr.1 hd.2 sr.2
 rw[BN,show Pa (val d) (val m%val d)=Pa (val d) (zv n m).natAbs by rw[Jx,aS,Jf]]at hG;have Mw:=Qe (zv n m).natAbs h0;have Dg:=Nat.gcd_le_left (zv n m).natAbs (show 0<val d by omega);have hz:=IH (val m%val d);obtain⟨e1,e2,e3⟩:=pL (z:=zv n m) h0;unfold qv;generalize hGG:Pa (val d) (zv n m).natAbs=g at*;have h1:=λq=>AiS N g q
 refine Ev.x N.TP rfl rfl ?_;by_cases rh:val m%val d=0
 ·repeat' (first|apply AG<;>intro hc<;>try omega|apply AP|apply AE|refine AD (Cw _ _) ?_|refine AD (hT _) ?_)<;>conv=>whnf
  refine EK 1000 N.K7 rfl rfl ?_;(repeat' (apply AE<;>conv=>whnf))
  refine⟨rfl,?_⟩;conv=>whnf
  (repeat' (refine JF rfl ?_<;>conv=>whnf))
  have ic:g=val d:=by
   rw[<-hGG,Jx];exact Nat.gcd_eq_left (Nat.dvd_of_mod_eq_zero rh)
  have hv:=BN (val m/val d);refine AU ?_ ?_
  ·show _=AV.agg (rQ _ _ _ _ _)
   rw[e1,e2,e3,Jx,ic,Nat.div_self O',FH,hv,lY];have hs:decide (zv n (dg (val m/val d))<0)=decide (zv n m<0):=by
    cases n
    ·rw[E4,E4];simp;omega
    ·rw[N8,N8,hv]
     congr 1;rw[eq_iff_iff];have h5:=zc (val m) (val d);rw[rh,La]at h5;constructor
     ·intro h6
      have h7:val m/val d≠0:=O'
      have:val m≠0:=λh8=>h7 (by rw[h8,Lf])
      omega
     ·intro h6
      have h7:val m/val d≠0:=λh8=>by rw[h8,Lb]at h5;omega
      omega
   rw[hs];rfl
  ·exact DG _
 ·by_cases yb:g=1
  ·have hT1:=λq=>yP N n q m hm
   have Is:=λq=>aG N.toc6 d q hd.1 (by have:=hd.2;omega)
   repeat' (first|apply AG<;>intro hc<;>try omega|apply AP|apply AE|refine AD (Cw _ _) ?_|refine AD (hG _ _) ?_|refine D8 (h1 _) (λhf=>?_) (λhf=>?_)|refine AD (hT1 _) ?_|refine AD (Is _) ?_)<;>conv=>whnf
   ·refine AU ?_ (eB _ _ _)
    show _=AV.agg (rQ _ _ _ _ _);rw[e1,e2,e3,yb,He,He]
   ·exact absurd yb hf
  ·have sg:Sm 549755813888 (dg g):=hd.low Dg
   have Az:=λq q'=>fQ N.toc6 m (dg g) q q' hm.1 sg.1 hm.2 sg.2 (by rw[BN];omega)
   have Ba:=λq q'=>fQ N.toc6 d (dg g) q q' hd.1 sg.1 hd.2 sg.2 (by rw[BN];omega)
   rw[BN]at Az Ba;repeat' (first|apply AG<;>intro hc<;>try omega|apply AP|apply AE|refine AD (Cw _ _) ?_|refine AD (hG _ _) ?_|refine D8 (h1 _) (λhf=>?_) (λhf=>?_)|refine AD (Az _ _) ?_|refine AD (Ba _ _) ?_)<;>conv=>whnf
   ·exact absurd hf yb
   ·refine AU ?_ (eB _ _ _)
    show _=AV.agg (rQ _ _ _ _ _);rw[e1,e2,e3,Jx];have hs:n=decide (zv n m<0):=by
     have:val m≠0:=λh=>rh (by rw[h,Nat.zero_mod])
     cases n
     ·exact FZ (by rw[E4];omega)
     ·exact L3 (by rw[N8];omega)
    rw[<-hs]
theorem V2(N:a6 L)(m:u_):Ev L 91 [.sl false (m.map AJ)] (.agg [.bool false,.sl false (m.map AJ)]):=by
 refine Ev.x N.TN rfl rfl ?_;(repeat' (apply AE<;>conv=>whnf))
 exact AU rfl (vJ _ _)
def Afg(n:Bool)(m d:u_)(n':Bool)(m' d':u_)(w:Bool)(k:Nat):Prop:=Sm k m'/\Sm k d'/\val d'≠0/\(w=true->val d'=1)/\qv n m d=mkRat (zv n' m') (val d')
theorem NR(N:a6 L)(n:Bool)(m d:u_)(k:Nat)(hk:1<=k/\k<=549755813888)(hm:Sm k m)(hd:Sm k d):∃n' m' d' w,Ev L 89 [.agg (rQ false false n m d)] (.agg [.bool n',.sl false (m'.map AJ),.sl false (d'.map AJ),.bool w])/\Afg n m d n' m' d' w k:=by
 have hcmp:=λq q'=>QW N.toc6 d [] q q' hd.1 X4 (by have:=hd.2;omega) Z'
 rw[KH]at hcmp;by_cases h1:d=[1]
 ·subst h1
  refine⟨n,m,[1],true,?_,hm,hd,Y',λ_=>rfl,rfl⟩;refine Ev.x N.M9 rfl rfl ?_;have hd:[1][(0:Int).toNat]?=some 1:=rfl;have sf:([1]:u_).length=1:=rfl;repeat' (first|apply AG<;>intro hc<;>try omega|apply AP|refine A3 V' ?_ rfl ?_;omega|apply AE)<;>conv=>whnf
  exact AU rfl (Z3 _ _ _ _)
 have o7:∀x,d[(0:Int).toNat]?=some x->(d.length:Int)=1->(x:Int)≠1:=λx hx hl h=>by
  obtain⟨y,rfl⟩:=xc.1 (show d.length=1 by omega);simp at hx;apply h1;congr 1;omega
 by_cases h0:val d=0
 ·refine⟨false,[],[1],true,?_,Uz _,rS hk.1 O',Y',λ_=>rfl,by unfold qv;rw[h0,fg,Zt,gg]⟩
  have hn:C4 (val d) (0:Nat)=0:=(VQ O').symm;rw[hn]at hcmp;refine Ev.x N.M9 rfl rfl ?_;have hD:=hd.1;repeat' (first|apply AG<;>intro hc<;>try omega|apply AP|refine RQ V' ?_ (λe he hb=>?_);omega|refine JF rfl ?_|apply AE|refine AD (hcmp _ _) ?_)<;>conv=>whnf
  all_goals first
   |exact AU rfl (Z3 _ _ _ _)
   |exact AU rfl (Z3 false true [] [1])
   |exact absurd V' (o7 _ he V')
 ·refine⟨n,m,d,false,?_,hm,hd,h0,(λh=>by cases h),rfl⟩
  have hn:C4 (val d) (0:Nat)=1:=(OI O').symm;rw[hn]at hcmp;have hD:=hd.1;refine Ev.x N.M9 rfl rfl ?_;repeat' (first|apply AG<;>intro hc<;>try omega|apply AP|refine RQ V' ?_ (λe he hb=>?_);omega|apply AE|refine AD (hcmp _ _) ?_)<;>conv=>whnf
  all_goals first
   |exact AU rfl (Z3 _ _ _ _)
   |exact AU rfl (Z3 false true [] [1])
   |exact absurd V' (o7 _ he V')
theorem zQ(N:a6 L)(n q1 q2:Bool)(m d:u_)(hm:Sm 549755813888 m)(hd:Sm 549755813888 d):Ev L 95 [.agg (rQ q1 q2 n m d)] (.agg (eQ (qv n m d))):=by
 obtain⟨n',m',d',w,hr,s1,s2,s3,s4,s5⟩:=NR N n m d 549755813888 O' hm hd;have hl:=λq1 q2=>X8 N n' q1 q2 m' d' s1 s2 s3
 rw[s5];unfold qv at hl;refine Ev.x N.TK rfl rfl ?_;repeat' (first|apply H2|apply AE|refine AD (hr) ?_|refine AD (hl _ _) ?_)<;>conv=>whnf
 exact AU rfl (DG _)
theorem zP(N:a6 L)(n q1 q2:Bool)(m d:u_)(hm:Sm 549755813888 m)(hd:Sm 549755813888 d):Ev L 97 [.agg (rQ q1 q2 n m d)] (.int .i64 (v7 (qv n m d).num)):=by
 obtain⟨n',m',d',w,hr,s1,s2,s3,s4,s5⟩:=NR N n m d 549755813888 O' hm hd;have hl:=λq=>fP N n' q m' s1
 rw[s5,Tj s3];refine Ev.x N.TI rfl rfl ?_;repeat' (first|apply H2|apply AE|refine AD (hr) ?_|refine AD (hl _) ?_)<;>conv=>whnf
 exact BM rfl
theorem kX(z:Int):AV.agg [.bool (decide (z<0)),.sl false ((dg z.natAbs).map AJ),.sl false [[.int .u32 1]]] = .agg (eQ (z:Rat)):=by
 show _=AV.agg (rQ _ _ _ _ _);rw[qg,ng,lY];rfl
theorem I6(N:a6 L)(z:Int)(hz:-9223372036854775808<=z/\z<=9223372036854775807):Ev L 96 [.int .i64 z] (.agg (eQ (z:Rat))):=by
 have h1:=mS N z hz;refine Ev.x N.TH rfl rfl ?_;repeat' (first|apply AE|refine AD (h1) ?_)<;>conv=>whnf
 refine EK 1000 N.K7 rfl rfl ?_;(repeat' (apply AE<;>conv=>whnf))
 refine⟨rfl,?_⟩;conv=>whnf
 (repeat' (refine JF rfl ?_<;>conv=>whnf))
 exact AU (kX z) (DG _)
theorem WY{k l:Nat}{n1 n2:Bool}{a b:u_}(ha:Sm k a)(hb:Sm l b):Sm (k+l) (dg (zv n1 a*zv n2 b).natAbs):=ha.mul hb (by rw[Eb,FH,FH])
theorem Vb{k:Nat}{x y:Int}(ha:Sm k (dg x.natAbs))(hb:Sm k (dg y.natAbs)):Sm (k+1) (dg (x+y).natAbs):=ha.add hb (by rw[BN,BN];omega)
theorem zN(N:a6 L)(k:Nat)(hk:1<=k/\k<=68719476736)(n1 n2 q1 q2 q3 q4:Bool)(m1 d1 m2 d2:u_)(ig:Sm k m1)(ox:Sm k d1)(iy:Sm k m2)(ry:Sm k d2) :
  Ev L 98 [.agg (rQ q1 q2 n1 m1 d1),.agg (rQ q3 q4 n2 m2 d2)] (.agg (eQ (qv n1 m1 d1+qv n2 m2 d2))):=by
 obtain⟨a1,a2,a3,w1,fo,s1,s2,s3,s4,s5⟩:=NR N n1 m1 d1 k O' ig ox;obtain⟨b1,b2,b3,w2,dd,t1,t2,t3,t4,t5⟩:=NR N n2 m2 d2 k O' iy ry;rw[s5,t5];have hA:=λq q'=>yN N a1 b1 q q' a2 b2 (s1.le O') (t1.le O')
 have yp:Sm (k+1) (dg (zv a1 a2+zv b1 b2).natAbs):=Vb (by rw[FH];exact s1.wy) (by rw[FH];exact t1.wy);by_cases hw:w1=true/\w2=true
 ·obtain⟨rfl,rfl⟩:=hw
  rw[s4 rfl,t4 rfl,Tg O',Ti];generalize zv a1 a2+zv b1 b2=z at*;refine Ev.x N.M8 rfl rfl ?_;repeat' (first|apply H2|apply AE|refine AD (fo) ?_|refine AD (dd) ?_|refine AD (hA _ _) ?_)<;>conv=>whnf
  refine EK 1000 N.K7 rfl rfl ?_;(repeat' (apply AE<;>conv=>whnf))
  refine⟨rfl,?_⟩;conv=>whnf
  (repeat' (refine JF rfl ?_<;>conv=>whnf))
  exact AU (kX z) (DG _)
 ·have hcmp:=λq q'=>QW N.toc6 a3 b3 q q' s2.1 t2.1 (by have:=s2.2;omega) (by have:=t2.2;omega)
  by_cases hde:val a3=val b3
  ·have hn:C4 (val a3) (val b3)=0:=(VQ O').symm
   rw[hn]at hcmp;rw[<-hde,Tg s3];generalize zv a1 a2+zv b1 b2=z at*;have hl:=λq1 q2=>X8 N (decide (z<0)) q1 q2 (dg z.natAbs) a3 (yp.le O') (s2.le O') s3
   unfold qv at hl;rw[GK]at hl;refine Ev.x N.M8 rfl rfl ?_;cases w1<;>cases w2
   ·repeat' (first|apply AG<;>intro hc<;>try omega|apply H2|apply AE|refine AD (fo) ?_|refine AD (dd) ?_|refine AD (hA _ _) ?_|refine AD (hcmp _ _) ?_|refine AD (hl _ _) ?_)<;>conv=>whnf
    exact AU rfl (DG _)
   ·repeat' (first|apply AG<;>intro hc<;>try omega|apply H2|apply AE|refine AD (fo) ?_|refine AD (dd) ?_|refine AD (hA _ _) ?_|refine AD (hcmp _ _) ?_|refine AD (hl _ _) ?_)<;>conv=>whnf
    exact AU rfl (DG _)
   ·repeat' (first|apply AG<;>intro hc<;>try omega|apply H2|apply AE|refine AD (fo) ?_|refine AD (dd) ?_|refine AD (hA _ _) ?_|refine AD (hcmp _ _) ?_|refine AD (hl _ _) ?_)<;>conv=>whnf
    exact AU rfl (DG _)
   ·exact absurd ⟨rfl,rfl⟩ hw
  ·have hn:C4 (val a3) (val b3)≠0:=by unfold C4;split<;>(try split)<;>omega
   generalize C4 (val a3) (val b3)=cm at*;have ka:=λq q'=>V0 N a1 false q q' a2 b3 s1.1 t2.1 (by have:=s1.2;have:=t2.2;omega)
   have mq:=λq q'=>V0 N b1 false q q' b2 a3 t1.1 s2.1 (by have:=t1.2;have:=s2.2;omega)
   have rq:=λq q'=>mU N.toc6 a3 b3 q q' s2.1 t2.1 (by have:=s2.2;have:=t2.2;omega)
   have vf:=V2 N a3;have vg:=V2 N b3;have g1:Sm (k+k) (dg (zv a1 a2*zv false b3).natAbs):=WY s1 t2;have g2:Sm (k+k) (dg (zv b1 b2*zv false a3).natAbs):=WY t1 s2;have g3:=Vb g1 g2;have g4:Sm (k+k) (dg (val a3*val b3)):=s2.mul t2 rfl;rw[iB s3 t3,<-E4 b3,<-E4 a3];have Bo:val a3*val b3≠0:=Ce s3 t3;generalize zv a1 a2*zv false b3=x at*;generalize zv b1 b2*zv false a3=y at*;generalize val a3*val b3=D at*;have Ih:=λq q'=>yN N (decide (x<0)) (decide (y<0)) q q' (dg x.natAbs) (dg y.natAbs) (g1.le O') (g2.le O')
   rw[GK,GK]at Ih;generalize x+y=z at*;have hl:=λq1 q2=>X8 N (decide (z<0)) q1 q2 (dg z.natAbs) (dg D) (g3.le O') (g4.le O') (by rw[BN];exact Bo)
   unfold qv at hl;rw[GK,BN]at hl;refine Ev.x N.M8 rfl rfl ?_;cases w1<;>cases w2
   ·repeat' (first|apply AG<;>intro hc<;>try omega|apply H2|apply RN|apply AE|refine AD (fo) ?_|refine AD (dd) ?_|refine AD (hcmp _ _) ?_|refine AD (vf) ?_|refine AD (vg) ?_|refine AD (ka _ _) ?_|refine AD (mq _ _) ?_|refine AD (Ih _ _) ?_|refine AD (rq _ _) ?_|refine AD (hl _ _) ?_)<;>conv=>whnf
    exact AU rfl (DG _)
   ·repeat' (first|apply AG<;>intro hc<;>try omega|apply H2|apply RN|apply AE|refine AD (fo) ?_|refine AD (dd) ?_|refine AD (hcmp _ _) ?_|refine AD (vf) ?_|refine AD (vg) ?_|refine AD (ka _ _) ?_|refine AD (mq _ _) ?_|refine AD (Ih _ _) ?_|refine AD (rq _ _) ?_|refine AD (hl _ _) ?_)<;>conv=>whnf
    exact AU rfl (DG _)
   ·repeat' (first|apply AG<;>intro hc<;>try omega|apply H2|apply RN|apply AE|refine AD (fo) ?_|refine AD (dd) ?_|refine AD (hcmp _ _) ?_|refine AD (vf) ?_|refine AD (vg) ?_|refine AD (ka _ _) ?_|refine AD (mq _ _) ?_|refine AD (Ih _ _) ?_|refine AD (rq _ _) ?_|refine AD (hl _ _) ?_)<;>conv=>whnf
    exact AU rfl (DG _)
   ·exact absurd ⟨rfl,rfl⟩ hw
theorem zO(N:a6 L)(k:Nat)(hk:1<=k/\k<=68719476736)(n1 n2 q1 q2 q3 q4:Bool)(m1 d1 m2 d2:u_)(ig:Sm k m1)(ox:Sm k d1)(iy:Sm k m2)(ry:Sm k d2) :
  Ev L 99 [.agg (rQ q1 q2 n1 m1 d1),.agg (rQ q3 q4 n2 m2 d2)] (.agg (eQ (qv n1 m1 d1*qv n2 m2 d2))):=by
 obtain⟨a1,a2,a3,w1,fo,s1,s2,s3,s4,s5⟩:=NR N n1 m1 d1 k O' ig ox;obtain⟨b1,b2,b3,w2,dd,t1,t2,t3,t4,t5⟩:=NR N n2 m2 d2 k O' iy ry;rw[s5,t5,pJ];have ka:=λq q'=>V0 N a1 b1 q q' a2 b2 s1.1 t1.1 (by have:=s1.2;have:=t1.2;omega)
 have rq:=λq q'=>mU N.toc6 a3 b3 q q' s2.1 t2.1 (by have:=s2.2;have:=t2.2;omega)
 have g1:Sm (k+k) (dg (zv a1 a2*zv b1 b2).natAbs):=WY s1 t1;have g4:Sm (k+k) (dg (val a3*val b3)):=s2.mul t2 rfl;have Bo:val a3*val b3≠0:=Ce s3 t3;generalize zv a1 a2*zv b1 b2=z at*;by_cases hw:w1=true/\w2=true
 ·obtain⟨rfl,rfl⟩:=hw
  rw[s4 rfl,t4 rfl,jc,Ti];refine Ev.x N.PD rfl rfl ?_;repeat' (first|apply H2|apply AE|refine AD (fo) ?_|refine AD (dd) ?_|refine AD (ka _ _) ?_)<;>conv=>whnf
  refine EK 1000 N.K7 rfl rfl ?_;(repeat' (apply AE<;>conv=>whnf))
  refine⟨rfl,?_⟩;conv=>whnf
  (repeat' (refine JF rfl ?_<;>conv=>whnf))
  exact AU (kX z) (DG _)
 ·generalize val a3*val b3=D at*
  have hl:=λq1 q2=>X8 N (decide (z<0)) q1 q2 (dg z.natAbs) (dg D) (g1.le O') (g4.le O') (by rw[BN];exact Bo)
  unfold qv at hl;rw[GK,BN]at hl;refine Ev.x N.PD rfl rfl ?_;cases w1<;>cases w2
  ·repeat' (first|apply H2|apply AE|refine AD (fo) ?_|refine AD (dd) ?_|refine AD (ka _ _) ?_|refine AD (rq _ _) ?_|refine AD (hl _ _) ?_)<;>conv=>whnf
   exact AU rfl (DG _)
  ·repeat' (first|apply H2|apply AE|refine AD (fo) ?_|refine AD (dd) ?_|refine AD (ka _ _) ?_|refine AD (rq _ _) ?_|refine AD (hl _ _) ?_)<;>conv=>whnf
   exact AU rfl (DG _)
  ·repeat' (first|apply H2|apply AE|refine AD (fo) ?_|refine AD (dd) ?_|refine AD (ka _ _) ?_|refine AD (rq _ _) ?_|refine AD (hl _ _) ?_)<;>conv=>whnf
   exact AU rfl (DG _)
  ·exact absurd ⟨rfl,rfl⟩ hw
theorem eC(x:Rat)(e:Int):AY (.j4 [.agg (eQ x),.int .i64 e]):=by
 simp only[AY,BI,and_true,true_and];exact⟨CS _,CS _⟩
theorem AjC(N:a6 L)(k:Nat)(hk:1<=k/\k<=68719476736)(n1 n2 q1 q2 q3 q4:Bool)(m1 d1 m2 d2:u_)(ig:Sm k m1)(ox:Sm k d1)(iy:Sm k m2)(ry:Sm k d2)(h0:qv n2 m2 d2≠0) :
  Ev L 100 [.agg (rQ q1 q2 n1 m1 d1),.agg (rQ q3 q4 n2 m2 d2)] (.j4 [.agg (eQ (qv n1 m1 d1/qv n2 m2 d2)),.int .i64 0]):=by
 obtain⟨a1,a2,a3,w1,fo,s1,s2,s3,s4,s5⟩:=NR N n1 m1 d1 k O' ig ox;obtain⟨b1,b2,b3,w2,dd,t1,t2,t3,t4,t5⟩:=NR N n2 m2 d2 k O' iy ry;rw[t5]at h0;rw[s5,t5];have jd:zv b1 b2≠0:=λh=>h0 ((pK t3).2 h)
 rw[AlJ s3 t3 jd];have hS:=λq=>fP N b1 q b2 (t1.le O')
 have ym:v7 (zv b1 b2)≠0:=by unfold v7;split<;>(try split)<;>omega
 have ka:=λq q'=>V0 N a1 false q q' a2 b3 s1.1 t2.1 (by have:=s1.2;have:=t2.2;omega)
 have mq:=λq q'=>V0 N false b1 q q' a3 b2 s2.1 t1.1 (by have:=t1.2;have:=s2.2;omega)
 have vf:=V2 N a3;have vg:=V2 N b3;have g1:Sm (k+k) (dg (zv a1 a2*zv false b3).natAbs):=WY s1 t2;have g2:Sm (k+k) (dg (zv false a3*zv b1 b2).natAbs):=WY s2 t1;have hd:(zv false a3*zv b1 b2).natAbs=val a3*(zv b1 b2).natAbs:=by rw[Eb,FH]
 have tn:(zv false a3*zv b1 b2).sign=(zv b1 b2).sign:=by
  rw[Int.sign_mul,E4,kd O',De]
 have qj:zv false a3*zv b1 b2≠0:=by
  intro h;rw[h]at tn;exact jd (by simpa using tn.symm)
 rw[<-hd,<-tn,<-E4 b3];generalize zv a1 a2*zv false b3=x at*;generalize zv false a3*zv b1 b2=y at*;generalize v7 (zv b1 b2)=sg at*;have hl:=λq1 q2=>X8 N (decide (x<0) != decide (y<0)) q1 q2 (dg x.natAbs) (dg y.natAbs) (g1.le O') (g2.le O') (by rw[BN];omega)
 unfold qv at hl;rw[Zu qj,BN]at hl;refine Ev.x N.TE rfl rfl ?_;repeat' (first|apply AG<;>intro hc<;>try omega|apply H2|apply RN|apply AE|refine AD (fo) ?_|refine AD (dd) ?_|refine AD (hS _) ?_|refine AD (vf) ?_|refine AD (vg) ?_|refine AD (ka _ _) ?_|refine AD (mq _ _) ?_)<;>conv=>whnf
 refine EK 1000 N.PE rfl rfl ?_;(repeat' (apply AE<;>conv=>whnf))
 generalize decide (x<0)=p at*;generalize decide (y<0)=r at*;cases p<;>cases r;all_goals
  (conv=>whnf)
  refine⟨rfl,?_⟩;conv=>whnf
  (repeat' (refine AD (hl _ _) ?_<;>conv=>whnf))
  exact AU rfl (eC _ _)
theorem AiC(N:ag L)(S:HI)(n k:Nat)(h:S.Ok n k)(hn:n<=64):Ev L 136 [.agg (eS S)] (.bool true):=by
 have h1:=h.la;have h2:=h.lb;have h3:=h.lc;refine Ev.x N.PO rfl rfl ?_;repeat' (first|apply AG<;>intro hc<;>try omega|apply AP|apply AE)<;>conv=>whnf
 refine C0 (λi=>S.a.length-i) (λ(i:Nat)=>i<=S.a.length) (λi=>[(4,.int .i64 i)]) (λ_=>[]) 0 O' ?_;intro i p1 ih;by_cases hi:i<S.a.length
 ·obtain⟨r,hr⟩:=N' S.a i hi
  have tz:S.a[(i:Int).toNat]?=some r:=hr;have gu:=h.lr r (zM hr);repeat' (first|apply AG<;>intro hc<;>try omega|apply AR;omega|apply AP|refine A3 V' ?_ rfl ?_;omega|apply AE)<;>conv=>whnf
  exact BC [] (ih (i+1) O' O')
 ·obtain rfl:i=S.a.length:=O'
  clear ih;repeat' (first|apply AG<;>intro hc<;>try omega|apply AE)<;>conv=>whnf
  exact EV rfl
theorem yE(N:ag L)(a b:o_)(q1 q2:Bool)(k s:Nat)(hl:a.length=b.length)(ha:Bs k a)(hb:Bs s b)(hK:a.length*(k+s+1)+k+s<2199023255552)(me:a.length<=1099511627776):Ev L 137 [.sl q1 (a.map eQ),.sl q2 (b.map eQ)] (.agg (eQ (BQ a b))):=by
 have hO:=NQ N.tob7 0 O';refine Ev.x N.PN rfl rfl ?_;repeat' (first|apply AE|refine AD (hO) ?_)<;>conv=>whnf
 refine DT (λi _=>a.length-i) (λ(i:Nat)(acc:Rat)=>i<=a.length/\acc=BQ (a.take i) (b.take i)) (λi acc=>[(6,.int .i64 i)]) (λi acc=>[(5,5,.bx (eQ acc))]) 0 ((0:Int):Rat) ⟨O',by simp[BQ]⟩ ?_;intro i acc ⟨p1,p2⟩ ih;by_cases hi:i<a.length
 ·obtain⟨x,hx⟩:=N' a i hi
  obtain⟨y,hy⟩:=N' b i;have ud:a[(i:Int).toNat]?=some x:=hx;have Ai:b[(i:Int).toNat]?=some y:=hy;have bx:=ha.at hx;have Zz:=hb.at hy
  have hM:=V1 N.tob7 bx Zz O' O'
  have Lz:Bt (a.length*(k+s+1)) acc:=by
   rw[p2];have:=(ha.take i).dot (hb.take i)
   refine this.le (zR _ ?_);rw[oa];omega
  have hA:=QV N.tob7 Lz (bx.mul Zz) O' O';have o4:=aE hx hy;repeat' (first|apply AG<;>intro hc<;>try omega|apply AR;omega|apply AP|refine A3 V' ?_ rfl ?_;omega|apply AE|refine AD (hM) ?_|refine AD (hA) ?_)<;>conv=>whnf
  refine A9 [] E' (ih (i+1) (acc+x*y) O' ⟨O',?_⟩);rw[o4,<-p2]
 ·obtain rfl:i=a.length:=O'
  clear ih;rw[fG rfl]at p2;rw[<-p2];repeat' (first|apply AG<;>intro hc<;>try omega|apply AP|apply AE)<;>conv=>whnf
  exact AU rfl (DG _)
end Go.Eng

namespace Go.Eng
theorem AeW{w:Wd}{v:Int}(h:FT w v):-8388608<=v/\v<=8388608:=by
 obtain⟨hw,e1,e2⟩:=h;obtain⟨h1,h2,h3,h4⟩:=Q5 hw;omega
variable {b a:List Int} {d c:Wd}
end Go.Eng

namespace Go.Eng
def FD:List Int->Nat->List Int
 |[],_=>[]
 |b::box,k=>(((k/BU box%(2*b+1).toNat:Nat):Int)-b)::FD box k
theorem pX:∀(box:List Int)(k:Nat),(FD box k).length=box.length
 |[],_=>rfl
 |b::box,k=>by simp only[FD,Bc,pX box k]
theorem pW:∀{box:List Int},(∀b∈box,0<=b)->∀k,B9 box (FD box k)
 |[],_,_=>trivial
 |b::box,h,k=>by
  have h0:=h b ua;have h1:=da (k/BU box) (show 0<(2*b+1).toNat by omega);refine⟨?_,pW (λx hx=>h x (Na _ hx)) k⟩;generalize k/BU box%(2*b+1).toNat=m at*;show -b<=(m:Int)-b/\(m:Int)-b<=b;omega
theorem Sj:∀{box s:List Int},B9 box s->∀q:Nat,FD box (B2 box s+q*BU box)=s
 |[],[],_,_=>rfl
 |[],_::_,h,_=>h.elim
 |_::_,[],h,_=>h.elim
 |b::box,v::s,h,q=>by
  obtain⟨⟨h1,h2⟩,h3⟩:=h;have hl:=JI h3;have e:B2 (b::box) (v::s)+q*BU (b::box)=B2 box s+((v+b).toNat+q*(2*b+1).toNat)*BU box:=by
   simp only[B2,BU];rw[Ge,Cc,Ig _ (B2 box s),ef]
  rw[e];simp only[FD];rw[Sj h3,Nat.add_mul_div_right _ _ O',tb hl,db,Nat.add_mul_mod_self_right,qb O'];congr 1;omega
theorem iK{box s:List Int}(h:B9 box s):FD box (B2 box s)=s:=by
 have:=Sj h 0
 rwa [Pc,La]at this
theorem Pu:∀{box:List Int},(∀b∈box,0<=b)->∀k,B2 box (FD box k)=k%BU box
 |[],_,k=>by simp[B2,BU,FD,Nat.mod_one]
 |b::box,h,k=>by
  have h0:=h b ua;have ih:=Pu (λx hx=>h x (Na _ hx)) k;simp only[FD,B2,BU,ih];have e:(((k/BU box%(2*b+1).toNat:Nat):Int)-b+b).toNat=k/BU box%(2*b+1).toNat:=O'
  rw[e,Ga (2*b+1).toNat,Nat.mod_mul,Ga (BU box),Ig]
theorem Ps{box:List Int}(h:∀b∈box,0<=b){k:Nat}(hk:k<BU box):B2 box (FD box k)=k:=by rw[Pu h,qb hk]
theorem Pr:∀{box s t:List Int},B9 box s->B9 box t->(B2 box s<B2 box t↔B0 s t<0)
 |[],[],[],_,_=>by simp[B2,B0]
 |[],_::_,_,h,_=>h.elim
 |_::_,[],_,h,_=>h.elim
 |[],[],_::_,_,h=>h.elim
 |_::_,_::_,[],_,h=>h.elim
 |b::box,v::s,w::t,h,h'=>by
  obtain⟨⟨h1,h2⟩,h3⟩:=h;obtain⟨⟨g1,g2⟩,g3⟩:=h';have l1:=JI h3;have l2:=JI g3;have ih:=Pr h3 g3;simp only[B2,B0];by_cases c1:v<w
  ·rw[if_pos c1]
   have:(v+b).toNat+1<=(w+b).toNat:=O'
   have:=zR (BU box) this
   rw[Jg]at this;omega
  ·rw[if_neg c1]
   by_cases c2:w<v
   ·rw[if_pos c2]
    have:(w+b).toNat+1<=(v+b).toNat:=O'
    have:=zR (BU box) this
    rw[Jg]at this;omega
   ·rw[if_neg c2]
    obtain rfl:v=w:=O'
    omega
section
variable (f:List Int->List Int) (box:List Int)
def NY(t:List Int):Int:=if JX box t then(B2 box t:Int)else -1
def S7:List Int:=(yf (BU box)).map λj=>NY box (f (FD box j))
def JJ(seen:List (List Int×Int)):List Int:=(yf (BU box)).map λj=>(HW seen (FD box j)).getD 0
variable {f box}
theorem Sp{s:List Int}(h:B9 box s):(S7 f box)[B2 box s]?=some (NY box (f s)):=by
 rw[S7,Ca,Bb (JI h),yd,iK h]
theorem AlL{seen:List (List Int×Int)}{s:List Int}(h:B9 box s):(JJ box seen)[B2 box s]?=some ((HW seen s).getD 0):=by
 rw[JJ,Ca,Bb (JI h),yd,iK h]
theorem bF(seen:List (List Int×Int)):(JJ box seen).length=BU box:=by simp[JJ]
theorem Sn:(S7 f box).length=BU box:=by simp[S7]
theorem AlN(hb:∀b∈box,0<=b){seen:List (List Int×Int)}{s:List Int}(h:B9 box s)(w:Int):(JJ box seen).set (B2 box s) w=JJ box ((s,w)::seen):=by
 apply je;intro j;rw[Hc];by_cases hj:j<BU box
 ·have e:∀sn,(JJ box sn)[j]?=some ((HW sn (FD box j)).getD 0):=λsn=>by rw[JJ,Ca,Bb hj];rfl
  rw[e,e];by_cases hi:B2 box s=j
  ·rw[if_pos hi,bF,if_pos O',<-hi,iK h]
   simp[HW]
  ·rw[if_neg hi]
   simp only[HW];rw[if_neg λe2=>hi (by rw[e2,Ps hb hj])]
 ·have e:∀sn,(JJ box sn)[j]?=none:=λsn=>oc (by rw[bF];omega)
  rw[e,e];split
  ·rw[bF,if_neg O']
  ·rfl
theorem AlM:JJ box []=ga (BU box) 0:=by
 apply je;intro j;by_cases hj:j<BU box
 ·rw[JJ,Ca,Bb hj,Ac,if_pos hj];rfl
 ·rw[oc (by rw[bF];omega),oc K']
end
abbrev Cy:=List (List Int)×List Int
def FB(c:Cy):List Int:=c.1.getD 0 []
structure U4(l0 l:List Cy)(i j:Nat):Prop where
 perm:l.Perm l0
 at_:j<=i
 fe:∀a b x y,a<b->b<=i->a≠j->b≠j->l[a]?=some x->l[b]?=some y->B0 (FB x) (FB y)<0
 low:∀b x y,j<b->b<=i->l[j]?=some x->l[b]?=some y->B0 (FB x) (FB y)<0
structure XL(l0 l:List Cy)(i:Nat):Prop where
 perm:l.Perm l0
 fe:∀a b x y,a<b->b<i->l[a]?=some x->l[b]?=some y->B0 (FB x) (FB y)<0
variable {l0 l:List Cy} {i j:Nat}
theorem XL.ins(h:XL l0 l i):U4 l0 l i i:=⟨h.perm,ea _,λa b x y h1 h2 _ h4=>h.fe a b x y h1 O',λb x y h1 h2=>absurd h1 O'⟩
theorem U4.swap(h:U4 l0 l i (j+1))(hi:i<l.length){x y:Cy}(hx:l[j+1]?=some x)(hy:l[j]?=some y)(hc:B0 (FB x) (FB y)<0):U4 l0 ((l.set (j+1) y).set j x) i j:=by
 have Dm:=h.at_;have e:∀a,((l.set (j+1) y).set j x)[a]?=if a=j then some x else if a=j+1 then some y else l[a]? := λa=>by
  rw[Hc];by_cases h1:j=a
  ·subst h1;rw[if_pos rfl,List.length_set,if_pos O',if_pos rfl]
  ·rw[if_neg h1,if_neg (Ne.symm h1),Hc]
   by_cases h2:j+1=a
   ·subst h2;rw[if_pos rfl,if_pos O',if_pos rfl]
   ·rw[if_neg h2,if_neg (Ne.symm h2)]
 refine⟨?_,O',λa b p q h1 h2 h3 h4 hp hq=>?_,λb p q h1 h2 hp hq=>?_⟩
 ·refine List.Perm.trans ?_ h.perm
  have hj:j<l.length:=O'
  have hj1:j+1<l.length:=O'
  obtain rfl:l[j+1]=x:=na ((zE hj1).symm.trans hx);obtain rfl:l[j]=y:=na ((zE hj).symm.trans hy);exact List.set_set_perm hj1 hj
 ·rw[e,if_neg h3]at hp
  rw[e,if_neg h4]at hq;by_cases ha:a=j+1
  ·rw[if_pos ha]at hp
   rw[if_neg O']at hq;obtain rfl:=na hp;exact h.fe j b y q O' h2 O' O' hy hq
  ·rw[if_neg ha]at hp
   by_cases hb:b=j+1
   ·rw[if_pos hb]at hq
    obtain rfl:=na hq;exact h.fe a j p y O' O' O' O' hp hy
   ·rw[if_neg hb]at hq
    exact h.fe a b p q h1 h2 ha hb hp hq
 ·rw[e,if_pos rfl]at hp
  obtain rfl:=na hp;rw[e,if_neg O']at hq;by_cases hb:b=j+1
  ·rw[if_pos hb]at hq
   obtain rfl:=na hq;exact hc
  ·rw[if_neg hb]at hq
   exact h.low b x q O' h2 hx hq
theorem U4.stop(h:U4 l0 l i j)(hi:i<l.length)(hn:(l0.map FB).Nodup)(hc:∀x y,0<j->l[j]?=some x->l[j-1]?=some y->¬B0 (FB x) (FB y)<0):XL l0 l (i+1):=by
 have Dm:=h.at_;have ep:(l.map FB).Nodup:=(h.perm.map FB).nodup_iff.2 hn;refine⟨h.perm,λa b x y h1 h2 hx hy=>?_⟩;by_cases ha:a=j
 ·subst ha;exact h.low b x y h1 O' hx hy
 by_cases hb:b=j
 ·subst hb
  obtain⟨p,hp⟩:=N' l (b-1);have y6:=hc y p O' hy hp;have hlt:B0 (FB p) (FB y)<0:=by
   rw[VO]at y6;rcases vT (FB p) (FB y)with e|e|e
   ·omega
   ·exfalso
    have e2:=VP e;have:b-1=b:=(List.getElem?_inj (i:=b-1) (j:=b) H' ep).1 (by rw[Ca,Ca,hp,hy,yd,yd,e2])
    omega
   ·omega
  by_cases xq:a=b-1
  ·subst xq
   obtain rfl:=na (hp.symm.trans hx);exact hlt
  ·exact Z9 (h.fe a (b-1) x p O' O' O' O' hx hp) hlt
 ·exact h.fe a b x y h1 O' ha hb hx hy
theorem aU{c:Cy}{s:List Int}(h:c.1[0]?=some s):FB c=s:=by rw[FB,xf,h];rfl
theorem XL.ho(h:XL l0 l l.length)(i j:Nat)(x y:Cy)(hx:l[i]?=some x)(hy:l[j]?=some y)(jf:i<j)(s t:List Int)(hs:x.1[0]?=some s)(ht:y.1[0]?=some t):B0 s t<0:=by
 have:=h.fe i j x y jf (zS hy).1 hx hy
 rwa [aU hs,aU ht]at this
section
variable {f:List Int->List Int} {g:List Int->Int} {box s:List Int} {seen:List (List Int × Int)} {k:Nat} {w:Int}
theorem MC.step(hk:MC f box seen s k)(hb:B9 box (AQ f k s))(hn:AQ f k s ∉ DJ (E3 f seen s w k)):MC f box seen s (k+1):=by
 have h2:AQ f k s ∉ A4 f k s/\AQ f k s ∉ DJ seen:=⟨λh=>hn ((JV f).2 (.inl h)),λh=>hn ((JV f).2 (.inr h))⟩;refine⟨?_,λt ht=>?_,λt ht=>?_⟩
 ·rw[O1,oe]
  exact⟨hk.nd,Z',λa ha b j8 e=>h2.1 (by rw[Fa]at j8;rw[<-j8,<-e];exact ha)⟩
 ·rw[O1]at ht
  rcases ub.1 ht with h|h
  ·exact hk.bx t h
  ·rw[Fa.1 h];exact hb
 ·rw[O1]at ht
  rcases ub.1 ht with h|h
  ·exact hk.nw t h
  ·rw[Fa.1 h];exact h2.2
theorem Aoa(hn:∀p∈seen,p.2<=w){v:Int}(hl:HW (E3 f seen s (w+1) k) (AQ f k s)=some v):(v≠w+1->AQ f k s∈DJ seen)/\(v=w+1->AQ f k s∈A4 f k s):=by
 have bh:=bB hl;refine⟨λh=>?_,λh=>?_⟩
 ·rcases ub.1 bh with h'|h'
  ·obtain⟨u,_,e⟩:=eb.1 (nc.1 h')
   exact absurd (Prod.mk.inj e).2.symm h
  ·exact eb.2 ⟨_,h',rfl⟩
 ·rcases ub.1 bh with h'|h'
  ·obtain⟨u,hu,e⟩:=eb.1 (nc.1 h')
   rw[<-(Prod.mk.inj e).1];exact hu
  ·have:=hn _ h'
   dsimp only at this;omega
theorem Vu(h:∀p∈seen,1<=p.2)(hw:1<=w):∀p∈E3 f seen s w k,1<=p.2:=λp hp=>by
 rcases ub.1 hp with h'|h'
 ·obtain⟨u,_,rfl⟩:=eb.1 (nc.1 h')
  exact hw
 ·exact h p h'
theorem IE.tn{l:List Cy}(h:IE f g box seen l w):(l.map FB).Nodup:=by
 rw[List.Nodup,List.pairwise_map,Cb];intro i j hi hj jf e;obtain⟨⟨s,m,h1⟩,_⟩:=h.oo _ (Le hi);obtain⟨⟨t,q,h2⟩,_⟩:=h.oo _ (Le hj);rw[aU h1.head,aU h2.head]at e;have:=h.zy (zE hi) (zE hj) h1.head h2.head e
 omega
theorem LP.close{i k j:Nat}(hk:MC f box seen s k)(hi:i<k)(he:AQ f k s=AQ f i s)(hj:j<k-i)(jv:∀m,m<k-i->B2 box (AQ f j (AQ f k s))<=B2 box (AQ f m (AQ f k s))) :
  AQ f (k-i) (AQ f j (AQ f k s))=AQ f j (AQ f k s)/\(A4 f (k-i) (AQ f j (AQ f k s))).Nodup/\B9 box (AQ f j (AQ f k s))/\LP f g box seen s k (some (A4 f (k-i) (AQ f j (AQ f k s)),(A4 f (k-i) (AQ f j (AQ f k s))).map g)):=by
 have dm:=YV (f:=f) i (k-i) s;rw[show i+(k-i)=k by omega]at dm;have Dp:0<k-i:=O'
 have dt:AQ f (k-i) (AQ f i s)=AQ f i s:=by rw[<-GO,show i+(k-i)=k by omega,he]
 have hnd:(A4 f (k-i) (AQ f i s)).Nodup:=by rw[<-dm];exact hk.nd.sublist (ie _ _)
 have ke:∀t∈A4 f (k-i) (AQ f i s),B9 box t:=λt ht=>hk.bx t (by rw[<-dm]at ht;exact Hd ht)
 have Di:∀m,AQ f m (AQ f i s)=AQ f (i+m) s:=λm=>(GO i m s).symm
 rw[he]at jv⊢;have bh:∀t,t∈A4 f (k-i) (AQ f i s) ↔ ∃q,i<=q/\q<k/\t=AQ f q s:=λt=>by
  rw[EY];constructor
  ·rintro⟨m,hm,rfl⟩
   exact⟨i+m,O',O',Di m⟩
  ·rintro⟨q,q1,q2,rfl⟩
   exact⟨q-i,O',by rw[Di,show i+(q-i)=q by omega]⟩
 have xu:=GX.Po (g:=g) Dp dt hnd hj (λt ht=>by
  obtain⟨m,hm,rfl⟩:=EY.1 ht;have h1:=jv m hm;have h2:=Pr (ke _ ht) (ke _ (EY.2 ⟨j,hj,rfl⟩));omega) ke
 have e:=bZ dt (m:=j) O';have iy:∀t,t∈A4 f (k-i) (AQ f j (AQ f i s))↔t∈A4 f (k-i) (AQ f i s):=λt=>by rw[<-e];exact(UR j _).mem_iff
 rw[rB,e]at xu;exact⟨oP dt j,by rw[<-e];exact(UR j _).nodup_iff.2 hnd,ke _ (EY.2 ⟨j,hj,rfl⟩),.new i _ _ hi he xu λt=>(iy t).trans (bh t)⟩
theorem MC.ring{i k:Nat}(hk:MC f box seen s k)(hi:i<k)(he:AQ f k s=AQ f i s):AQ f (k-i) (AQ f k s)=AQ f k s/\(∀m,B9 box (AQ f m (AQ f k s)))/\∀m,0<m->m<k-i->AQ f m (AQ f k s)≠AQ f k s:=by
 have Di:∀m,AQ f m (AQ f i s)=AQ f (i+m) s:=λm=>(GO i m s).symm
 have dt:AQ f (k-i) (AQ f i s)=AQ f i s:=by rw[Di,show i+(k-i)=k by omega,he]
 rw[he];refine⟨dt,λm=>?_,λm h1 h2 e=>?_⟩
 ·obtain⟨q,hq,e⟩:=EY.1 (aZ (show 0<k-i by omega) dt m)
  rw[e,Di];exact hk.bx _ (EY.2 ⟨i+q,O',rfl⟩)
 ·rw[Di]at e
  have:=YW hk.nd (i:=i+m) (j:=i) O' O' e
  omega
theorem Sl{t:List Int}(h:B9 box t):NY box t=(B2 box t:Int):=by rw[NY,if_pos ((UV (Q1 h)).2 h)]
end
end Go.Eng

namespace Go.Eng
variable {L:Lib}
def U8(M:Mem):Mem->Prop
 |[]=>True
 |(k,s,c)::r=>e8 M k=some (s,c)/\U8 M r
theorem U8.get{M:Mem}:∀{M0:Mem},U8 M M0->∀k s c,e8 M0 k=some (s,c)->e8 M k=some (s,c)
 |[],_,_,_,_,e=>by cases e
 |(i,s0,c0)::r,h,k,s,c,e=>by
  simp only[e8]at e;cases hb:ve k i<;>simp only[hb,cond_true,cond_false]at e
  ·exact U8.get h.2 k s c e
  ·rw[BL.1 hb,<-e];exact h.1
theorem H4.sub{σ:F5}{own:Own}{M M0:Mem}(h:H4 σ own M)(hm:U8 M M0):H4 σ own M0:=by
 have hr:∀k t c,c8 M0 k t=some c->c8 M k t=some c:=λk t c e=>by
  obtain⟨s,c0,g,_⟩:=JB e;have g2:=hm.get k s c0 g;unfold c8 at e⊢;rw[g]at e;rw[g2];exact e
 exact⟨λk s c e=>h.site k s c (hm.get k s c e),λk t c e=>h.c9 k t c (hr k t c e),λk t c e=>h.old k t c (hr k t c e),λk t k' t' c c' e e'=>h.inj k t k' t' c c' (hr k t c e) (hr k' t' c' e'),λk t c e=>h.low k t c (hr k t c e)⟩
theorem cU{f:Nat}{vs:w_}{tm:Tm}{M:Mem}{K:AV->Mem->Prop}(h:A8 L f vs tm M λr M'=>∃M1,U8 M' M1/\K r M1):A8 L f vs tm M K:=by
 intro σ own hs;obtain⟨r,o8,σ',M',h1,h2,h3,M1,h4,h5⟩:=h σ own hs;exact⟨r,o8,σ',M1,h1,h2.sub h4,h3,h5⟩
def iO(ks:u_):AV->Bool
 |.row k t _ _ _=>ve t 0&&K0 k ks
 |.ptr k t _ _=>ve t 0&&K0 k ks
 |.mp k t=>ve t 0&&K0 k ks
 |_=>true
def bM(ks:u_):w_->Bool
 |[]=>true
 |v::r=>iO ks v&&bM ks r
def qF(ks:u_):AV->Bool
 |.agg cs=>bM ks cs
 |.fn _ _ _ cs=>bM ks cs
 |v=>iO ks v
def iP(ks:u_):w_->Bool
 |[]=>true
 |v::r=>qF ks v&&iP ks r
def qG(ks:u_):AV->Bool
 |.j4 vs=>iP ks vs
 |v=>qF ks v
def iQ(ks:u_):Tm->Bool
 |[]=>true
 |(_,v)::r=>qG ks v&&iQ ks r
theorem Sx{k:Nat}:∀{l:u_},K0 k l=true->k∈l
 |[],h=>by cases h
 |j::r,h=>by
  simp only[K0]at h;cases hb:ve k j<;>simp only[hb,cond_true,cond_false]at h
  ·exact Na _ (Sx h)
  ·rw[BL.1 hb];exact ua
section
variable {ks:u_} {σ σ':F5} (hs : ∀ k∈ks,σ' k 0=σ k 0)
include hs
theorem W3{v:AV}(h:iO ks v=true):A7 σ' v=A7 σ v:=by
 cases v<;>try rfl
 all_goals
  simp only[iO,Mb]at h;have h1:=BL.1 h.1;have h2:=hs _ (Sx h.2);subst h1;simp only[A7,h2]
theorem sG:∀{l:w_},bM ks l=true->l.map (A7 σ')=l.map (A7 σ)
 |[],_=>rfl
 |v::r,h=>by
  simp only[bM,Mb]at h;rw[Ab,Ab,W3 hs h.1,sG h.2]
theorem sE{v:AV}(h:qF ks v=true):BK σ' v=BK σ v:=by
 cases v with
 |agg cs=>simp only[BK];rw[sG hs h]
 |fn p f g cs=>simp only[BK];rw[sG hs h]
 |row k t z o n=>exact W3 hs (v := .row k t z o n) h
 |ptr k t i j=>exact W3 hs (v := .ptr k t i j) h
 |mp k t=>exact W3 hs (v := .mp k t) h
 |_=>rfl
theorem Ze:∀{l:w_},iP ks l=true->l.map (BK σ')=l.map (BK σ)
 |[],_=>rfl
 |v::r,h=>by
  simp only[iP,Mb]at h;rw[Ab,Ab,sE hs h.1,Ze h.2]
theorem AnA{v:AV}(h:qG ks v=true):BB σ' v=BB σ v:=by
 cases v with
 |j4 vs=>simp only[BB];rw[Ze hs h]
 |agg cs=>exact sE hs (v := .agg cs) h
 |fn p f g cs=>exact sE hs (v := .fn p f g cs) h
 |row k t z o n=>exact W3 hs (v := .row k t z o n) h
 |ptr k t i j=>exact W3 hs (v := .ptr k t i j) h
 |mp k t=>exact W3 hs (v := .mp k t) h
 |_=>rfl
end
theorem Wn{ks:u_}:∀{tm:Tm},iQ ks tm=true->∀j,qG ks (tg tm j)=true
 |[],_,_=>rfl
 |(i,v)::r,h,j=>by
  simp only[iQ,Mb]at h;simp only[tg];cases hb:ve j i<;>simp only[cond_true,cond_false]
  ·exact Wn h.2 j
  ·exact h.1
def cP:Nat->u_->Tm
 |_,[]=>[]
 |i,k::r=>(i,.ptr k 0 0 0)::cP (i+1) r
abbrev ZC(ks:u_):Tm:=cP 0 ks
theorem Xy:∀{ks:u_}{i k:Nat},k∈ks->∃j,i<=j/\tg (cP i ks) j = .ptr k 0 0 0
 |[],_,_,h=>by cases h
 |j::r,i,k,h=>by
  rcases Fc.1 h with rfl|e
  ·exact⟨i,ea _,by simp[cP,tg]⟩
  ·obtain⟨a,h1,h2⟩:=Xy (i:=i+1) e
   refine⟨a,O',?_⟩;simp only[cP,tg];rw[FR.2 (show a≠i by omega),cond_false];exact h2
theorem cV{f:Nat}{vs:w_}{tm:Tm}{M:Mem}{K:AV->Mem->Prop}(ks:u_)(M0:Mem)(hm:U8 M M0)(ht:iQ ks tm=true)(h:A8 L f vs (ZC ks) M0 K):A8 L f vs tm M K:=by
 intro σ own hs;obtain⟨r,o8,σ',M',h1,h2,h3,h4⟩:=h σ own (hs.sub hm);refine⟨r,o8,σ',M',h1,h2,λj=>?_,h4⟩;refine AnA (λk hk=>?_) (Wn ht j);obtain⟨j,_,hj⟩:=Xy (i:=0) hk;have:=h3 j
 rw[show tg (ZC ks) j=_ from hj]at this;simp only[BB,BK,A7,AV.ptr.injEq]at this;exact Prod.ext this.1 this.2.1
end Go.Eng

namespace Go.Eng
open F
variable {L:Lib}
def c7(n:Nt)(x:Int)(s:List Int):List Int:=H6 n (FS n (x::s) false n.nodes).1
def ax(n:Nt)(x:Int)(s:List Int):Int:=(FS n (x::s) false n.nodes).1.getD n.out.toNat 0
structure DW(n:Nt)(s:List Int):Prop where
 len:(s.length:Int)=n.s
 wd:DF n.d s=true
theorem Aj1(n:Nt)(x:Int)(s:List Int):(c7 n x s).length=n.next.length:=by simp[c7,H6]
theorem DW.step{n:Nt}{x:Int}{s:List Int}(hv:C6 n=true)(hx:FT n.d x)(h:DW n s):DW n (c7 n x s):=by
 obtain⟨g1,g2,g3,g4,g5,g6⟩:=(CP n).1 hv;refine⟨by rw[Aj1];omega,Aj2 n ?_ g5 ?_⟩
 ·refine wA n g1 _ _ _ ?_
  simp only[DF,List.all_cons,Mb,decide_eq_true_eq];exact⟨hx,h.wd⟩
 ·rw[lO,Bc]
  have:=h.len
  omega
theorem DW.it{n:Nt}{x:Int}(hv:C6 n=true)(hx:FT n.d x):∀(k:Nat){s:List Int},DW n s->DW n (AQ (c7 n x) k s)
 |0,_,h=>h
 |k+1,_,h=>DW.it hv hx k (h.step hv hx)
theorem DW.ft{n:Nt}{s:List Int}(h:DW n s):∀v∈s,FT n.d v:=λv hv=>of_decide_eq_true (Db.1 h.wd v hv)
theorem yI(I:a8 L)(J:k7 L){n:Nt}{x:Int}{s:List Int}(hv:C6 n=true)(hx:FT n.d x)(h:DW n s)(q:Bool):Ev L 26 [.agg (BX n),.sl q (s.map AZ),.int .i64 x] (.j4 [.sl false ((c7 n x s).map AZ),.int .i64 (ax n x s),.bool (FS n (x::s) false n.nodes).2,.int .i64 0]):=by
 have:=yW n I J s q x (by have:=h.len;obtain⟨_,_,g3,_⟩:=(CP n).1 hv;omega)
 rwa [Zj n hv h.len h.wd hx]at this
theorem DW.box{n:Nt}{box s:List Int}(hl:(box.length:Int)=n.s)(hw:DF n.d box=true)(h:B9 box s):DW n s:=by
 have ku:=Q1 h;refine⟨O',Db.2 λv hv=>?_⟩;obtain⟨i,hi⟩:=List.getElem?_of_mem hv;have hil:=(zS hi).1;obtain⟨b,hb⟩:=N' box i;have h1:=aX h hi hb;have h2:FT n.d b:=of_decide_eq_true (Db.1 hw b (zM hb));obtain⟨w1,w2,w3⟩:=h2;obtain⟨l1,l2,l3,l4⟩:=Q5 w1;exact decide_eq_true ⟨w1,O',O'⟩
structure GY(s:List Int):Prop where
 len:s.length<=64
 Hz:∀v∈s,C3 v
theorem DW.uf{n:Nt}{s:List Int}(hv:C6 n=true)(h:DW n s):GY s:=by
 obtain⟨_,_,g3,_⟩:=(CP n).1 hv;refine⟨by have:=h.len;omega,λv ij=>?_⟩;have:=YD (h.ft v ij)
 exact⟨O',O'⟩
structure KJ(L:Lib)(kB:List Int->ByteArray):Prop where
 no:L 432=none
 ext:∀(q:Bool)(s:List Int),GY s->L.ext 432 [.sl q (s.map AZ)]=some (.x7 (.string (kB s)))
 inj:∀s t,GY s->GY t->kB s=kB t->s=t
 size:∀s,GY s->(kB s).size<=100000
variable {kB:List Int->ByteArray}
theorem yQ(Y:KJ L kB){s:List Int}(h:GY s)(q:Bool):Ev L 432 [.sl q (s.map AZ)] (.x7 (.string (kB s))):=Ev.told Y.no (Y.ext q s h) (by simp[AY])
variable (kB) in
abbrev MI(seen:List (List Int×Int)):v_:=seen.map λp=>[.x7 (.string (kB p.1)),.int .i64 p.2]
theorem Zl(Y:KJ L kB){s t:List Int}(hs:GY s)(ht:GY t):L4 (kB s) (kB t)=decide (s=t):=by
 by_cases h:s=t
 ·subst h
  rw[decide_eq_true rfl];exact cH.2 rfl
 ·rw[decide_eq_false h]
  exact AnJ.2 λe=>h (Y.inj s t hs ht e)
theorem Tc(Y:KJ L kB){s:List Int}(hs:GY s):∀{seen:List (List Int×Int)},(∀t∈DJ seen,GY t)->G1 (MI kB seen) (kB s)=HW seen s
 |[],_=>rfl
 |p::r,h=>by
  simp only[Ab,G1,HW];rw[Zl Y (h p.1 ua) hs,Tc Y hs λt ht=>h t (Na _ ht)];by_cases e:p.1=s
  ·rw[decide_eq_true e,if_pos e,cond_true]
  ·rw[decide_eq_false e,if_neg e,cond_false]
theorem VB.seen(Y:KJ L kB){s:List Int}(hs:GY s){seen:List (List Int×Int)}(hk:∀t∈DJ seen,GY t)(hl:seen.length<=1000000){K:Int->Bool->Prop}(h:K ((HW seen s).getD 0) (HW seen s).isSome):VB (MI kB seen) (kB s) K:=by
 refine⟨⟨by have:=Y.size s hs;omega,by rw[va];omega⟩,?_⟩;rw[Tc Y hs hk];exact h
theorem VC.seen(Y:KJ L kB){s:List Int}(hs:GY s){seen:List (List Int×Int)}(hk:∀t∈DJ seen,GY t)(hl:seen.length<=1000000)(hn:s ∉ DJ seen){w:Int}(hw:C3 w){K:v_->Prop}(h:K (MI kB ((s,w)::seen))):VC (MI kB seen) (kB s) w K:=by
 refine⟨⟨by have:=Y.size s hs;omega,by rw[va];omega,hw.1,hw.2⟩,?_⟩;have:SY (MI kB seen) (kB s) w=MI kB ((s,w)::seen):=by
  show _::_=_::_;congr 1;rw[List.filter_eq_self];intro c hc;obtain⟨p,hp,rfl⟩:=eb.1 hc;have Dq:p.1∈DJ seen:=eb.2 ⟨p,hp,rfl⟩;simp only[zi];rw[Zl Y (hk _ Dq) hs,decide_eq_false λ(e:p.1=s)=>hn (e▸Dq)];rfl
 rw[this];exact h
theorem pH{f:List Int->List Int}{g:List Int->Int}{B:List Int->Prop}{p:Nat}{u:List Int}(hp:0<p)(hu:AQ f p u=u)(hn:(A4 f p u).Nodup)(hB:∀t∈A4 f p u,B t):GX f g B (OQ (A4 f p u,(A4 f p u).map g)) (AQ f (K2 (A4 f p u) p) u) p:=by
 have hj:K2 (A4 f p u) p<p:=by have:=gZ (A4 f p u) p;omega
 unfold OQ;rw[FL];refine GX.Po hp hu hn hj (λt ht=>?_) hB;obtain⟨m,hm,rfl⟩:=EY.1 ht;have:=pI (A4 f p u) p m hm
 rwa [gF (O0 hm),gF (O0 hj)]at this
theorem Td{f:List Int->List Int}{g:List Int->Int}(p:Nat)(u t:List Int):t∈(OQ (A4 f p u,(A4 f p u).map g)).1 ↔ ∃j,j<p/\t=AQ f j u:=(UR _ _).mem_iff.trans EY
attribute [local irreducible] AA AF AW AC BD BS BR A5 C9 AB A8 AH pw VB VC
abbrev xP(n:Nt)(x:Int)(q:Bool)(box:List Int)(w:Int):w_:=BX n++[.int .i64 x,.sl q (box.map AZ),.mp 960028 0,.int .i64 w]
abbrev pF(n:Nt)(x:Int)(q:Bool)(box:List Int)(st:List Int)(es:v_)(S:v_)(w:Int):Mem:=[(3,3,.bx (BX n)),(960028,960028,.rw 2 S),(9,9,.bx (xP n x q box w)),(32,32,.rw 1 (st.map AZ)),(13,13,.rw 2 es)]
def Aie:Option (List (List Int)×List Int)->w_
 |some c=>DR c
 |none=>[.nil,.nil]
structure ZQ(n:Nt)(x:Int)(box:List Int):Prop where
 du:C6 n=true
 Pg:FT n.d x
 len:(box.length:Int)=n.s
 wd:DF n.d box=true
 nn:∀b∈box,0<=b
 As:BU box<=4096
theorem Agu(I:a8 L)(J:k7 L)(N:q6 L)(Y:KJ L kB){n:Nt}{x:Int}{box:List Int}(hX:ZQ n x box)(q:Bool)(st:List Int)(es:v_){seen:List (List Int×Int)}{w:Nat}{s:List Int}(hs:B9 box s)(hb:∀t∈DJ seen,B9 box t)(hn:∀p∈seen,p.2<=w)(ku:(DJ seen).Nodup)(hw:w<=4096)
  (K:AV->Mem->Prop) (hK:∀k r,MC (c7 n x) box seen s k->LP (c7 n x) (ax n x) box seen s k r->K (.j4 [.agg (Aie r),.bool r.isSome,.int .i64 0]) (pF n x q box st es (MI kB (E3 (c7 n x) seen s (w+1) k)) (w+1))) :
  A8 L 431 [.ptr 9 0 0 0,.sl false (s.map AZ)] (ZC [3,960028,9,32,13,51]) (pF n x q box st es (MI kB seen) w) K:=by
 have y5:=hX.du;obtain⟨g1,g2,g3,g4,g5,g6⟩:=(CP n).1 y5;have kb:=hX.len;have k6:∀t,B9 box t->DW n t:=λt h=>DW.box hX.len hX.wd h
 have hbw:∀b∈box,0<=b/\b<=9223372036854775807:=λb h=>⟨hX.nn b h,by have:=(YD (of_decide_eq_true (Db.1 hX.wd b h))).2;omega⟩
 have hW:=λk=>DW.it y5 hX.Pg k (k6 s hs)
 refine cU ?_;refine EK 1000 N.MP rfl rfl ?_;repeat' (first|apply AR;omega|apply AE)<;>conv=>whnf
 refine C0 (λk=>4097-k) (λ(k:Nat)=>MC (c7 n x) box seen s k) (λk=>[(1,.sl false ((AQ (c7 n x) k s).map AZ)),(7,.row 431007 0 1 0 k),(8,.row 431008 0 1 0 k)]) (λk=>[(431007,431007,.rw 1 ((A4 (c7 n x) k s).map (H5 false))),(431008,431008,.rw 1 (((A4 (c7 n x) k s).map (ax n x)).map AZ)),(960028,960028,.rw 2 (MI kB (E3 (c7 n x) seen s (w+1) k)))]) 0 ⟨kg,by simp[A4],by simp[A4]⟩ ?_;intro k hk ih;have hkl:k<=4096:=by
  have:=pV hk.nd hk.bx
  rw[FL]at this;have:=hX.As
  omega
 have yu:=hW k;have vb:∀t∈DJ (E3 (c7 n x) seen s (w+1) k),GY t:=λt ht=>(k6 t (by rcases(JV _).1 ht with h|h;exact hk.bx t h;exact hb t h)).uf y5
 have hsz:(E3 (c7 n x) seen s (w+1) k).length<=8192:=by
  have h1:=pV ku hb;have h2:=hX.As;simp only[E3,ja,List.length_reverse,va,FL];simp only[DJ,va]at h1;omega
 have lk:=FL (f:=c7 n x) k s;have yn:=O1 (f:=c7 n x) k s;have hnx:=Q2 (f:=c7 n x) k s;have sj:=Vv (c7 n x) seen s (w+1) k;generalize hT:AQ (c7 n x) k s=T at*;have zp:T.length=box.length:=by have:=yu.len;omega
 have zq:=yu.uf y5;have hTo:(((A4 (c7 n x) k s).map (ax n x)).map AZ).length=k:=by simp[lk]
 repeat' (first|apply AE|refine ZL (AjO N T box _ q zp hbw O') (λhf=>?_) (λhf=>?_)|refine AD (yQ Y zq _) ?_)<;>conv=>whnf
 ·refine VB.seen Y zq vb O' ?_
  cases mg:HW (E3 (c7 n x) seen s (w+1) k) T with
  |none=>
   have kn:=gU.1 mg;conv=>whnf
   skip
   refine VC.seen Y zq vb O' kn ⟨O',O'⟩ ?_;conv=>whnf
   repeat' (first|apply AG<;>intro hc<;>try omega|apply CI|refine AD (yI I J y5 hX.Pg yu _) ?_)<;>conv=>whnf
   refine C1 (enc:=H5 false) T rfl lk.symm rfl O' O' ?_;rw[<-yn,FL];conv=>whnf
   (repeat' (apply CI<;>conv=>whnf))
   refine C1 (enc:=AZ) (ax n x T) rfl (by rw[va];exact lk.symm) rfl H' H' ?_;rw[show(A4 (c7 n x) k s).map (ax n x)++[ax n x T]=(A4 (c7 n x) (k+1) s).map (ax n x)by rw[yn,Ee];rfl,va,FL];conv=>whnf
   skip
   have Gp:T ∉ A4 (c7 n x) k s/\T ∉ DJ seen:=⟨λh=>kn ((JV _).2 (.inl h)),λh=>kn ((JV _).2 (.inr h))⟩;have jj:=ih (k+1) O' ⟨by
    rw[yn,oe];exact⟨hk.nd,Z',λa ha b j8 e=>Gp.1 (by rw[Fa]at j8;rw[<-j8,<-e];exact ha)⟩,λt ht=>by
    rw[yn]at ht;rcases ub.1 ht with h|h
    ·exact hk.bx t h
    ·rw[Fa.1 h];exact(UV zp).1 hf,λt ht=>by
    rw[yn]at ht;rcases ub.1 ht with h|h
    ·exact hk.nw t h
    ·rw[Fa.1 h];exact Gp.2⟩
   rw[hnx,sj]at jj;exact A9 [(431007,431096),(431008,431100)] E' jj
  |some v=>
   have bh:=bB mg;have hold:v≠(w:Int)+1->T∈DJ seen:=λh=>by
    rcases ub.1 bh with h'|h'
    ·obtain⟨u,_,e⟩:=eb.1 (nc.1 h')
     exact absurd (Prod.mk.inj e).2.symm h
    ·exact eb.2 ⟨_,h',rfl⟩
   have dn:v=(w:Int)+1->T∈A4 (c7 n x) k s:=λh=>by
    rcases ub.1 bh with h'|h'
    ·obtain⟨u,hu,e⟩:=eb.1 (nc.1 h')
     rw[<-(Prod.mk.inj e).1];exact hu
    ·have:=hn _ h'
     dsimp only at this;omega
   clear bh;conv=>whnf
   repeat' (first|apply AG<;>intro hc<;>try omega|fail)<;>conv=>whnf
   ·refine⟨rfl,?_⟩
    (conv=>whnf)
    refine⟨_,?_,hK k none hk (.old (by rw[hT];exact hold hc))⟩;exact⟨rfl,rfl,rfl,rfl,rfl,trivial⟩
   ·obtain⟨i0,lj,Cz⟩:=EY.1 (dn hc)
    refine C0 (λi=>k-i) (λ(i:Nat)=>i<=i0) (λi=>[(12,.int .i64 i)]) (λ_=>[]) 0 O' ?_;intro i hi jh;have l9:=O0 (f:=c7 n x) (k:=k) (j:=i) (s:=s) O';have hUw:=hW i;have zr:(AQ (c7 n x) i s).length<9223372036854775808:=by have:=(hUw.uf y5).len;omega
    have hC:=nK N (AQ (c7 n x) i s) T false false zr (by have:=zq.len;omega);have o7:AQ (c7 n x) i s≠T->i≠i0:=λh e=>h (by rw[e,Cz])
    have xj:∀j,AQ (c7 n x) j (AQ (c7 n x) i s)=AQ (c7 n x) (i+j) s:=λj=>(GO i j s).symm
    have dm:=YV (f:=c7 n x) i (k-i) s;rw[show i+(k-i)=k by omega]at dm;generalize hU:AQ (c7 n x) i s=U at*;repeat' (first|apply A2;omega|refine U7 ?_ (λ_=>rfl) (λv hv=>?_);omega|apply AE)<;>conv=>whnf
    obtain rfl:U=v:=na (l9.symm.trans hv);repeat' (first|apply AG<;>intro hc<;>try omega|apply AR;omega|refine AD (hC) ?_)<;>conv=>whnf
    ·have:=o7 (λe=>hc (by rw[e,XY]))
     exact BC [] (jh (i+1) O' O')
    ·have hUT:U=T:=VP hc
     refine ZK O' ?_;conv=>whnf
     skip
     refine ZK O' ?_;conv=>whnf
     rw[Aa,db];refine HQ (λ_=>rfl) O' ?_;rw[dm,zT (by rw[FL];omega)];conv=>whnf
     refine HQ (λ_=>rfl) H' ?_;rw[<-cg,dm,zT (by rw[va,FL];omega)];conv=>whnf
     have Dp:0<k-i:=O'
     have dt:AQ (c7 n x) (k-i) U=U:=by rw[xj,show i+(k-i)=k by omega,hT,hUT]
     have hnd:(A4 (c7 n x) (k-i) U).Nodup:=by rw[<-dm];exact hk.nd.sublist (ie _ _)
     have ke:∀t∈A4 (c7 n x) (k-i) U,B9 box t:=λt ht=>hk.bx t (by rw[<-dm]at ht;exact Hd ht)
     have xu:=pH (g:=ax n x) Dp dt hnd ke;have bh:=λt=>Td (f:=c7 n x) (g:=ax n x) (k-i) U t
     have Kv:=yJ N (A4 (c7 n x) (k-i) U) ((A4 (c7 n x) (k-i) U).map (ax n x)) false true true (by rw[FL];exact Dp) (by rw[va]) (by rw[FL];omega) (λt ht=>by have:=((k6 t (ke t ht)).uf y5).len;omega);generalize dz:OQ (A4 (c7 n x) (k-i) U,(A4 (c7 n x) (k-i) U).map (ax n x))=c at*;(repeat' (refine AD (Kv) ?_<;>conv=>whnf))
     refine⟨rfl,?_⟩;conv=>whnf
     refine⟨_,?_,hK k (some c) hk (.new i c _ O' (by rw[hT,hU,hUT]) xu λt=>?_)⟩
     ·exact⟨rfl,rfl,rfl,rfl,rfl,trivial⟩
     ·rw[bh t]
      constructor
      ·rintro⟨j,hj,rfl⟩
       exact⟨i+j,O',O',xj j⟩
      ·rintro⟨j,j1,j2,rfl⟩
       refine⟨j-i,O',?_⟩;rw[xj,show i+(j-i)=j by omega]
 ·refine⟨rfl,?_⟩
  (conv=>whnf)
  refine⟨_,?_,hK k none hk (.out (by rw[hT];exactλh=>by rw[(UV zp).2 h]at hf;cases hf))⟩;exact⟨rfl,rfl,rfl,rfl,rfl,trivial⟩
end Go.Eng

namespace Go.Eng
open F
variable {L:Lib} {kB:List Int->ByteArray}
theorem Yd:∀{box:List Int}{a:Int},(∀b∈box,0<=b)->0<=a->a<=4096->JD box a=false->a*(BU box:Int)<=4096
 |[],a,_,_,h,_=>by simp only[BU];omega
 |b::box,a,hb,h0,_,h=>by
  simp only[JD]at h;split at h
  ·cases h
  ·rename_i h1
   have jd:=hb b ua;have:=Yd (a:=a*(2*b+1)) (λx hx=>hb x (Na _ hx)) (Bd h0 O') O' h
   simp only[BU];rw[Hb,Nb O',<-Lg];exact this
theorem ZQ.of{n:Nt}{x:Int}{box:List Int}(h:I2 n x box=0):ZQ n x box:=by
 unfold I2 at h;split at h
 ·rename_i h1
  split at h
  ·rename_i h2
   split at h
   ·rename_i h3
    split at h
    ·rename_i h4
     split at h
     ·rename_i h5
      split at h
      ·cases h
      ·rename_i h6
       have hb:∀b∈box,0<=b:=λb hb=>of_decide_eq_true (Db.1 h3 b hb)
       have:=Yd (a:=1) hb O' O' (Bool.not_eq_true _▸h6)
       exact⟨h1,h4,h2,h5,hb,O'⟩
     ·cases h
    ·cases h
   ·cases h
  ·cases h
 ·cases h
theorem N9.ints{s:List Int}{K:v_->Prop}(h:s.length<=1000000)(hk:K (s.map AZ)):N9 (s.map AZ) 1 8 K :=
 ⟨λe he=>by
  obtain⟨v,_,rfl⟩:=eb.1 he;exact⟨rfl,by simp[Q9]⟩,by rw[va];simp only[ET];omega,by rw[va];omega,hk⟩
structure VF(L:Lib):Prop where
 ff:L.ff 434=some 2
 num:L.num 435=vz
 cmp:∀(c d:List (List Int)×List Int)(s t:List Int),c.1[0]?=some s->d.1[0]?=some t->s.length<=64->t.length<=64->L.cmp 435 [.agg (DR c),.agg (DR d)]=some (.int .i64 (B0 s t))
theorem ZX.oo(Z:VF L){l:List (List (List Int)×List Int)}{len:Nat}{K:v_->Prop}(hl:len=l.length)(hb:l.length<=1000000)(hh:∀c∈l,∃s,c.1[0]?=some s/\s.length<=64)
  (hd:∀(i j:Nat)(c d:List (List Int)×List Int)(s t:List Int),l[i]?=some c->l[j]?=some d->c.1[0]?=some s->d.1[0]?=some t->s=t->i=j)
  (h:∀l':List (List (List Int)×List Int),l'.Perm l->(∀(i j:Nat)(c d:List (List Int)×List Int),l'[i]?=some c->l'[j]?=some d->i<j->∀s t,c.1[0]?=some s->d.1[0]?=some t->B0 s t<0)->K (l'.map DR)):ZX L 435 (l.map DR) len K:=by
 have qa:∀c∈l,c.1[0]?=some (c.1.head?.getD []):=λc hc=>by
  obtain⟨s,hs,_⟩:=hh c hc;rw[<-uc]at hs;rw[<-uc,hs];rfl
 let le:=λc d:List (List Int)×List Int=>decide (B0 (c.1.head?.getD []) (d.1.head?.getD [])<=0)
 have hp:=List.mergeSort_perm l le;have tr:∀a b c,le a b=true->le b c=true->le a c=true:=λa b c h1 h2=>by
  have h1:=of_decide_eq_true h1;have h2:=of_decide_eq_true h2;refine decide_eq_true ?_;rcases re h1 with e1|e1
  ·rcases re h2 with e2|e2
   ·have:=Z9 e1 e2;omega
   ·rw[<-VP e2];exact h1
  ·rw[VP e1];exact h2
 have As:∀a b,(le a b||le b a)=true:=λa b=>by
  have:=VO (a.1.head?.getD []) (b.1.head?.getD [])
  rw[Bool.or_eq_true];rcases Int.le_total (B0 (a.1.head?.getD []) (b.1.head?.getD [])) 0 with e|e
  ·exact .inl (decide_eq_true e)
  ·exact .inr (decide_eq_true O')
 have hs:=List.pairwise_mergeSort tr As l;have hnd:l.Pairwise λc d=>c.1[0]? ≠ d.1[0]? := by
  rw[Cb];intro i j hi hj jf e;obtain⟨s,h1,_⟩:=hh _ (Le hi);have:=hd i j _ _ s s (zE hi) (zE hj) h1 (e▸h1) rfl
  omega
 have si:(l.mergeSort le).Pairwise λc d=>c.1[0]? ≠ d.1[0]? := (hp.pairwise_iff (λh=>h.symm)).2 hnd
 have hlt:∀(i j:Nat)(c d:List (List Int)×List Int),(l.mergeSort le)[i]?=some c->(l.mergeSort le)[j]?=some d->i<j->∀s t,c.1[0]?=some s->d.1[0]?=some t->B0 s t<0:=λi j c d h1 h2 jf s t h3 h4=>by
  obtain⟨i1,rfl⟩:=zS h1;obtain⟨j1,rfl⟩:=zS h2;have e1:=of_decide_eq_true (Cb.1 hs i j i1 j1 jf);have e2:=Cb.1 si i j i1 j1 jf;rw[uc,uc,h3,h4]at e1;simp only[Cf]at e1;rw[h3,h4]at e2;rcases re e1 with e|e
  ·exact e
  ·exact absurd (congrArg some (VP e)) e2
 refine⟨by rw[va];exact hl,O',_,⟨hp.map DR,?_,λi j x y hx hy=>?_⟩,h _ hp hlt⟩
 ·refine LS (λc=>?_) l
  have:=VN c
  exact this
 ·rw[Ca,Option.map_eq_some_iff]at hx hy
  obtain⟨c,hc,rfl⟩:=hx;obtain⟨d,Fu,rfl⟩:=hy;obtain⟨s,s1,s2⟩:=hh c (hp.mem_iff.1 (zM hc));obtain⟨t,t1,t2⟩:=hh d (hp.mem_iff.1 (zM Fu));refine⟨_,Z.cmp c d s t s1 t1 s2 t2,λnz=>?_,λjf=>hlt i j c d hc Fu jf s t s1 t1⟩;rcases Nat.lt_trichotomy i j with h1|h1|h1
  ·exact h1
  ·subst h1
   rw[hc]at Fu;obtain rfl:=na Fu;rw[s1]at t1;obtain rfl:=na t1;rw[XY]at nz;omega
  ·have:=hlt j i d c Fu hc h1 t s t1 s1
   rw[VO]at this;omega
theorem LP.mem{f:List Int->List Int}{g:List Int->Int}{box:List Int}{seen:List (List Int×Int)}{s:List Int}{k:Nat}{r:Option (List (List Int)×List Int)}(hs:B9 box s)(hk:MC f box seen s k)(hr:LP f g box seen s k r)(w:Int):s∈DJ (E3 f seen s w k):=by
 rcases k with _|k
 ·cases hr with
  |out h=>exact absurd hs h
  |old h=>exact(JV f).2 (.inr h)
  |new i c u hi=>exact absurd hi O'
 ·exact(JV f).2 (.inl (EY.2 ⟨0,O',rfl⟩))
attribute [local irreducible] AA AF AW AC EC AX BD BG CM BS BR A5 AB A8 AH pw N9 ZX
theorem Aiw(I:a8 L)(J:k7 L)(N:q6 L){n:Nt}{x:Int}{box:List Int}(h:I2 n x box≠0)(q:Bool)(hb:box.length<9223372036854775808):Ev L 433 [.agg (BX n),.int .i64 x,.sl q (box.map AZ)] (.j4 [.sl false [],.int .i64 (I2 n x box)]):=by
 refine Ev.x N.KY rfl rfl ?_;have hC:=mT I J N n x box true hb;have hC':=mT I J N n x box q hb;repeat' (first|apply AG<;>intro hc<;>try omega|apply AE|refine AD (hC') ?_)<;>conv=>whnf
 exact AU rfl (by simp[AY,BI,DB])
theorem yC(I:a8 L)(J:k7 L)(N:q6 L)(Y:KJ L kB)(Z:VF L){n:Nt}{x:Int}{box:List Int}(h:I2 n x box=0)(q:Bool) :
  ∃v,Ev L 433 [.agg (BX n),.int .i64 x,.sl q (box.map AZ)] v/\∃l,LK (c7 n x) (ax n x) box l/\v = .j4 [.sl false (l.map DR),.int .i64 0]:=by
 have hX:=ZQ.of h;obtain⟨g1,g2,g3,g4,g5,g6⟩:=(CP n).1 hX.du;have kb:=hX.len;have hC:=mT I J N n x box q O';rw[h]at hC;obtain⟨b1,b2⟩:=oI hX.nn;have Mt:∀b∈box,b<=8388607:=λb h=>(YD (of_decide_eq_true (Db.1 hX.wd b h))).2
 refine Ev.xE N.KY rfl rfl ?_;repeat' (first|apply AG<;>intro hc<;>try omega|apply AP|apply AE|refine AD (hC) ?_)<;>conv=>whnf
 refine E6 (enc:=AZ) 0 box.length rfl rfl O' ?_;conv=>whnf
 (repeat' (apply AP<;>conv=>whnf))
 refine DT (λi _=>box.length-i) (λ(i:Nat)(o:List Int)=>i<=box.length/\o.length=(box.map λv=>-v).length/\o.take i=(box.map λv=>-v).take i) (λi _=>[(35,.int .i64 i)]) (λ_ o=>[(32,32,.rw 1 (o.map AZ))]) 0 (ga box.length 0) ⟨O',Z',rfl⟩ ?_;intro i o ⟨p1,p2,p3⟩ ih;by_cases hi:i<box.length
 ·obtain⟨b,hb⟩:=N' box i hi
  have jd:=hX.nn b (zM hb);have ou:=Mt b (zM hb);have lk:o.length=box.length:=by rw[p2,va]
  obtain⟨f1,f2⟩:=gB p2 p3 (v := -b) (by rw[Ca,hb];rfl);repeat' (first|apply AG<;>intro hc<;>try omega|apply A2;omega|apply EC.neg;omega|refine A3 V' ?_ rfl ?_;omega|apply AE)<;>conv=>whnf
  refine HS (enc:=AZ) (-b) rfl (λ_=>rfl) O' ?_;conv=>whnf
  repeat' (first|apply AR;omega|fail)<;>conv=>whnf
  exact A9 [] E' (ih (i+1) _ O' ⟨O',f1,f2⟩)
 have ei:=gA p2 p3 H';subst ei;clear ih p2 p3;repeat' (first|apply AG<;>intro hc<;>try omega|apply AE)<;>conv=>whnf
 refine Aei (λk _ _ _ _=>BU box-k) (λ(k:Nat)(st:List Int)(more:Bool)(seen:List (List Int×Int))(l:List (List (List Int)×List Int))=>IE (c7 n x) (ax n x) box seen l k/\st.length=box.length/\l.length<=k/\k<=BU box/\(∀t,B9 box t->B2 box t<k->t∈DJ seen)/\(more=true->B9 box st/\B2 box st=k)/\(more=false->k=BU box)) (λ_ _ more _ l=>[(14,.bool more),(13,.row 13 0 2 0 l.length)]) (λk st _ seen l=>[(960028,960028,.rw 2 (MI kB seen)),(9,9,.bx (xP n x q box k)),(32,32,.rw 1 (st.map AZ)),(13,13,.rw 2 (l.map DR))]) [] [] 0 (box.map λv=>-v) true [] [] E' ⟨IE.start,Z',Z',O',λt _ h=>absurd h O',λ_=>⟨b1,b2⟩,λh=>by cases h⟩ ?_;intro k st more seen l ⟨p1,qi,p3,p4,p5,p6,p7⟩ ih;have Hi:=hX.As;cases more with
 |true=>
  obtain⟨gp,Gb⟩:=p6 rfl;have hlt:=JI gp;clear p6 p7;(repeat' (apply AE<;>conv=>whnf))
  refine Afk rfl qi.symm ?_;conv=>whnf
  refine N9.ints O' ?_;conv=>whnf
  skip
  refine cV [3,960028,9,32,13,51] (pF n x q box st (l.map DR) (MI kB seen) k) ⟨rfl,rfl,rfl,rfl,rfl,trivial⟩ rfl (Agu I J N Y hX q st (l.map DR) gp p1.bx p1.num p1.nd O' _ (λkk r hk hr=>?_));have hF:=p1.walk hk hr;have hS:=LP.mem gp hk hr ((k:Int)+1);have Gl:∀t,B9 box t->B2 box t<k+1->t∈DJ (E3 (c7 n x) seen st ((k:Int)+1) kk):=λt ht og=>by
   by_cases e:B2 box t<k
   ·exact(JV _).2 (.inr (p5 t ht e))
   ·rw[aW ht gp O']
    exact hS
  have yu:((k:Int)+1)=((k+1:Nat):Int):=O'
  rw[yu]at hF Gl⊢;generalize E3 (c7 n x) seen st ((k+1:Nat):Int) kk=rm at*;clear hS p5 p1 hk;cases r with
  |none=>
   simp only[Option.toList_none,od]at hF;conv=>whnf
   repeat' (first|apply AG<;>intro hc<;>try omega|fail)<;>conv=>whnf
   refine IX 1000 N.MQ rfl rfl ?_;repeat' (first|apply BP;omega|apply AE)<;>conv=>whnf
   refine DP (λj=>j) (λ(j:Nat)=>j<=box.length/\∀(i:Nat)(u v:Int),j<=i->st[i]?=some u->box[i]?=some v->v<=u) (λj=>[(5,.int .i64 ((j:Int)-1))]) (λj=>[(32,32,.rw 1 ((st.take j++(box.drop j).map λv=>-v).map AZ))]) [] [] box.length (by rw[Je,zT O',Mg,od,<-qi];exact E') ⟨O',λi u v h1 h2 h3=>by have:=(zS h2).1;omega⟩ ?_;intro j ⟨j1,j2⟩ jh;rcases j with _|j
   focus
    have my:JK box st=none:=iF qi λi u v h1 h2=>j2 i u v O' h1 h2
    rw[Jd,Fe,ya];repeat' (first|apply AG<;>intro hc<;>try omega|apply AE)<;>conv=>whnf
    refine⟨rfl,_,rfl,?_⟩;conv=>whnf
    skip
    exact A9 [] E' (ih (k+1) (box.map λv=>-v) false rm l O' ⟨hF,by rw[va],by(try rw[ja,Ja]);omega,O',Gl,λh=>(by cases h),λ_=>by have:=iG hX.nn gp my;omega⟩)
   obtain⟨u,hu⟩:=N' st j;obtain⟨v,hv⟩:=N' box j;have hv0:=hX.nn v (zM hv);have Co:=Mt v (zM hv);have huv:=aX gp hu hv;have e1:((j+1:Nat):Int)-1=(j:Int):=O'
   have de:(st.take j).length=j:=by rw[oa];omega
   have ho:(st.take (j+1)++(box.drop (j+1)).map λv=>-v)[0+((j:Int)).toNat]?=some u:=by rw[db,Aa,qf J',lf O',hu]
   have bj:∀y:Int,(st.take (j+1)++(box.drop (j+1)).map λv=>-v).set j y=st.take j++y::(box.drop (j+1)).map λv=>-v:=λy=>by
    rw[pe,hu,ye,Gc,pc _ _ O',de,vd];rfl
   have lk:(st.take (j+1)++(box.drop (j+1)).map λv=>-v).length=box.length:=by rw[ja,va,oa,Me];omega
   rw[e1];generalize ho0:st.take (j+1)++(box.drop (j+1)).map (λv=>-v)=o at*;repeat' (first|apply AG<;>intro hc<;>try omega|apply A2;omega|apply AE)<;>conv=>whnf
   refine FQ (enc:=AZ) ho rfl ?_;conv=>whnf
   repeat' (first|apply AG<;>intro hc<;>try omega|apply A2;omega|apply EC.neg;omega|refine A3 V' ?_ rfl ?_;omega)<;>conv=>whnf
   focus
    have fw:=pT (box:=box) (s:=st) (i:=j) qi hu hv O' λi x y h1 h2 h3=>j2 i x y O' h2 h3
    refine FQ (enc:=AZ) ho rfl ?_;conv=>whnf
    repeat' (first|apply A2;omega|apply AR;omega)<;>conv=>whnf
    refine HS (enc:=AZ) (u+1) rfl (λ_=>rfl) O' ?_;rw[bj];conv=>whnf
    skip
    refine⟨rfl,_,rfl,?_⟩;conv=>whnf
    skip
    obtain⟨n1,n2⟩:=pU hX.nn gp fw;exact A9 [] E' (ih (k+1) _ true rm l O' ⟨hF,Q1 n1,by(try rw[ja,Ja]);omega,O',Gl,λ_=>⟨n1,O'⟩,λh=>(by cases h)⟩)
   refine HS (enc:=AZ) (-v) rfl (λ_=>rfl) O' ?_;rw[bj,show -v::(box.drop (j+1)).map (λv=>-v)=(box.drop j).map λv=>-v by rw[CW hv];rfl];conv=>whnf
   repeat' (first|apply BP;omega|fail)<;>conv=>whnf
   exact BC [] (jh j O' ⟨O',λi x y h1 h2 h3=>by
    by_cases e:i=j
    ·subst e
     rw[hu]at h2;rw[hv]at h3;obtain rfl:=na h2;obtain rfl:=na h3;omega
    ·exact j2 i x y O' h2 h3⟩)
  |some c=>
   simp only[ye]at hF;conv=>whnf
   repeat' (first|apply AG<;>intro hc<;>try omega|apply CI)<;>conv=>whnf
   refine C1 (enc:=DR) c rfl rfl rfl O' O' ?_;conv=>whnf
   skip
   refine IX 1000 N.MQ rfl rfl ?_;repeat' (first|apply BP;omega|apply AE)<;>conv=>whnf
   refine DP (λj=>j) (λ(j:Nat)=>j<=box.length/\∀(i:Nat)(u v:Int),j<=i->st[i]?=some u->box[i]?=some v->v<=u) (λj=>[(5,.int .i64 ((j:Int)-1))]) (λj=>[(32,32,.rw 1 ((st.take j++(box.drop j).map λv=>-v).map AZ))]) [] [] box.length (by rw[Je,zT O',Mg,od,<-qi];exact E') ⟨O',λi u v h1 h2 h3=>by have:=(zS h2).1;omega⟩ ?_;intro j ⟨j1,j2⟩ jh;rcases j with _|j
   focus
    have my:JK box st=none:=iF qi λi u v h1 h2=>j2 i u v O' h1 h2
    rw[Jd,Fe,ya];repeat' (first|apply AG<;>intro hc<;>try omega|apply AE)<;>conv=>whnf
    refine⟨rfl,_,rfl,?_⟩;conv=>whnf
    skip
    exact A9 [(13,65)] E' (ih (k+1) (box.map λv=>-v) false rm (l++[c]) O' ⟨hF,by rw[va],by(try rw[ja,Ja]);omega,O',Gl,λh=>(by cases h),λ_=>by have:=iG hX.nn gp my;omega⟩)
   obtain⟨u,hu⟩:=N' st j;obtain⟨v,hv⟩:=N' box j;have hv0:=hX.nn v (zM hv);have Co:=Mt v (zM hv);have huv:=aX gp hu hv;have e1:((j+1:Nat):Int)-1=(j:Int):=O'
   have de:(st.take j).length=j:=by rw[oa];omega
   have ho:(st.take (j+1)++(box.drop (j+1)).map λv=>-v)[0+((j:Int)).toNat]?=some u:=by rw[db,Aa,qf J',lf O',hu]
   have bj:∀y:Int,(st.take (j+1)++(box.drop (j+1)).map λv=>-v).set j y=st.take j++y::(box.drop (j+1)).map λv=>-v:=λy=>by
    rw[pe,hu,ye,Gc,pc _ _ O',de,vd];rfl
   have lk:(st.take (j+1)++(box.drop (j+1)).map λv=>-v).length=box.length:=by rw[ja,va,oa,Me];omega
   rw[e1];generalize ho0:st.take (j+1)++(box.drop (j+1)).map (λv=>-v)=o at*;repeat' (first|apply AG<;>intro hc<;>try omega|apply A2;omega|apply AE)<;>conv=>whnf
   refine FQ (enc:=AZ) ho rfl ?_;conv=>whnf
   repeat' (first|apply AG<;>intro hc<;>try omega|apply A2;omega|apply EC.neg;omega|refine A3 V' ?_ rfl ?_;omega)<;>conv=>whnf
   focus
    have fw:=pT (box:=box) (s:=st) (i:=j) qi hu hv O' λi x y h1 h2 h3=>j2 i x y O' h2 h3
    refine FQ (enc:=AZ) ho rfl ?_;conv=>whnf
    repeat' (first|apply A2;omega|apply AR;omega)<;>conv=>whnf
    refine HS (enc:=AZ) (u+1) rfl (λ_=>rfl) O' ?_;rw[bj];conv=>whnf
    skip
    refine⟨rfl,_,rfl,?_⟩;conv=>whnf
    skip
    obtain⟨n1,n2⟩:=pU hX.nn gp fw;exact A9 [(13,65)] E' (ih (k+1) _ true rm (l++[c]) O' ⟨hF,Q1 n1,by(try rw[ja,Ja]);omega,O',Gl,λ_=>⟨n1,O'⟩,λh=>(by cases h)⟩)
   refine HS (enc:=AZ) (-v) rfl (λ_=>rfl) O' ?_;rw[bj,show -v::(box.drop (j+1)).map (λv=>-v)=(box.drop j).map λv=>-v by rw[CW hv];rfl];conv=>whnf
   repeat' (first|apply BP;omega|fail)<;>conv=>whnf
   exact BC [] (jh j O' ⟨O',λi x y h1 h2 h3=>by
    by_cases e:i=j
    ·subst e
     rw[hu]at h2;rw[hv]at h3;obtain rfl:=na h2;obtain rfl:=na h3;omega
    ·exact j2 i x y O' h2 h3⟩)
 |false=>
  have hk:=p7 rfl;have hh:∀c∈l,∃s,c.1[0]?=some s/\s.length<=64:=λc hc=>by
   obtain⟨⟨s,m,h1⟩,_⟩:=p1.oo c hc;refine⟨s,h1.head,?_⟩;have:=Q1 (h1.box s (EY.2 ⟨0,h1.pos,rfl⟩))
   omega
  (repeat' (apply AE<;>conv=>whnf))
  refine A2 ⟨rfl,Z.num.symm,Z.ff⟩ ?_;conv=>whnf
  refine ZX.oo Z rfl O' hh (λi j c d s t h1 h2 h3 h4 h5=>p1.zy h1 h2 h3 h4 h5) (λl' hp ho=>?_);have ju:=p1.full (λt ht=>p5 t ht (by rw[hk];exact JI ht)) hp ho;have sf:l.length=l'.length:=hp.length_eq.symm;conv=>whnf
  skip
  rw[sf];refine⟨_,?_,l',ju,rfl⟩;conv=>whnf
  refine CR (λ_=>rfl) rfl rfl ?_;conv=>whnf
  refine AU rfl ?_;simp only[AY,BI,true_and,and_true];exact LS (λc=>VN c) l'
end Go.Eng

namespace Go.Eng
open F
variable {L:Lib} {kB:List Int->ByteArray}
def L2(f:List Int->List Int)(s:List Int):Nat->List (List Int×Int)
 |0=>[]
 |i+1=>(AQ f i s,(i:Int))::L2 f s i
theorem rM{f:List Int->List Int}{s t:List Int}:∀{i:Nat},t∈DJ (L2 f s i)↔t∈A4 f i s
 |0=>by simp[L2,A4]
 |i+1=>by
  simp only[L2,DJ,Ab,Fc,O1,ub,Fa];have:=rM (f:=f) (s:=s) (t:=t) (i:=i)
  simp only[DJ]at this;rw[this,Or.comm];simp
theorem Vx{f:List Int->List Int}{s t:List Int}{v:Int}:∀{i:Nat},(t,v)∈L2 f s i->∃j:Nat,j<i/\v=j/\t=AQ f j s
 |i+1,h=>by
  simp only[L2,Fc,mf]at h;rcases h with⟨h1,h2⟩|h
  ·exact⟨i,O',h2,h1⟩
  ·obtain⟨j,h1,h2⟩:=Vx h
   exact⟨j,O',h2⟩
theorem Vw{f:List Int->List Int}{s:List Int}:∀i,(L2 f s i).length=i
 |0=>rfl
 |i+1=>by simp only[L2,Bc,Vw i]
set_option maxRecDepth 8000
attribute [local irreducible] AA AF AW AC BS BR A5 C9 AB AH pw VB VC N9
def QL(n:Nt)(x:Int)(s:List Int)(v:AV):Prop :=
 (∃i j:Nat,i<j/\j<=4096/\(A4 (c7 n x) j s).Nodup/\AQ (c7 n x) j s=AQ (c7 n x) i s/\v = .j4 [.agg (DR (OQ (A4 (c7 n x) (j-i) (AQ (c7 n x) i s),(A4 (c7 n x) (j-i) (AQ (c7 n x) i s)).map (ax n x)))),.int .i64 i,.int .i64 0]) \/
 ((A4 (c7 n x) 4097 s).Nodup/\v = .j4 [.agg [.sl false [],.sl false []],.int .i64 0,.int .i64 16])
theorem AiA(I:a8 L)(J:k7 L)(N:q6 L)(Y:KJ L kB){n:Nt}{x:Int}{s:List Int}(y5:C6 n=true)(hx:FT n.d x)(hs:DW n s)(q:Bool) :
  ∃v,Ev L 436 [.agg (BX n),.sl q (s.map AZ),.int .i64 x] v/\QL n x s v:=by
 obtain⟨g1,g2,g3,g4,g5,g6⟩:=(CP n).1 y5;have ku:=(hs.uf y5).len;have hW:=λk=>DW.it y5 hx k hs
 refine Ev.xE N.MM rfl rfl ?_;(repeat' (apply AE<;>conv=>whnf))
 refine N9.ints O' ?_;conv=>whnf
 skip
 refine C0 (λk=>4098-k) (λ(k:Nat)=>k<=4097/\(A4 (c7 n x) k s).Nodup) (λk=>[(25,.int .i64 k),(12,.sl false ((AQ (c7 n x) k s).map AZ)),(10,.row 10 0 1 0 k),(11,.row 11 0 1 0 k)]) (λk=>[(10,10,.rw 1 ((A4 (c7 n x) k s).map (H5 false))),(11,11,.rw 1 (((A4 (c7 n x) k s).map (ax n x)).map AZ)),(960021,960021,.rw 2 (MI kB (L2 (c7 n x) s k)))]) 0 ⟨O',kg⟩ ?_;intro k ⟨hk1,hk⟩ ih;have yu:=hW k;have vb:∀t∈DJ (L2 (c7 n x) s k),GY t:=λt ht=>by
  obtain⟨j,_,rfl⟩:=EY.1 (rM.1 ht);exact(hW j).uf y5
 have hsz:=Vw (f:=c7 n x) (s:=s) k;have lk:=FL (f:=c7 n x) k s;have yn:=O1 (f:=c7 n x) k s;have hnx:=Q2 (f:=c7 n x) k s;have sj:L2 (c7 n x) s (k+1)=(AQ (c7 n x) k s,(k:Int))::L2 (c7 n x) s k:=rfl;generalize hT:AQ (c7 n x) k s=T at*;have zq:=yu.uf y5;by_cases hk4:k<4097
 ·repeat' (first|apply AG<;>intro hc<;>try omega|apply AE|refine AD (yI I J y5 hx yu _) ?_|refine AD (yQ Y zq _) ?_)<;>conv=>whnf
  refine VB.seen Y zq vb O' ?_;cases mg:HW (L2 (c7 n x) s k) T with
  |none=>
   have kn:=gU.1 mg;conv=>whnf
   skip
   refine VC.seen Y zq vb O' kn ⟨O',O'⟩ ?_;conv=>whnf
   (repeat' (apply CI<;>conv=>whnf))
   refine C1 (enc:=H5 false) T rfl lk.symm rfl O' O' ?_;rw[<-yn,FL];conv=>whnf
   (repeat' (apply CI<;>conv=>whnf))
   refine C1 (enc:=AZ) (ax n x T) rfl (by rw[va];exact lk.symm) rfl H' H' ?_;rw[show(A4 (c7 n x) k s).map (ax n x)++[ax n x T]=(A4 (c7 n x) (k+1) s).map (ax n x)by rw[yn,Ee];rfl,va,FL];conv=>whnf
   repeat' (first|apply AR;omega|fail)<;>conv=>whnf
   have jj:=ih (k+1) O' ⟨O',by
    rw[yn,oe];exact⟨hk,Z',λa ha b j8 e=>kn (rM.2 (by rw[Fa]at j8;rw[<-j8,<-e];exact ha))⟩⟩
   rw[hnx,sj]at jj;exact A9 [(10,64),(11,68)] E' jj
  |some v=>
   obtain⟨i,hi,rfl,Cz⟩:=Vx (bB mg);rw[Cf];have dm:=YV (f:=c7 n x) i (k-i) s;rw[show i+(k-i)=k by omega]at dm;have Dp:0<k-i:=O'
   have hIb:∀t∈A4 (c7 n x) (k-i) (AQ (c7 n x) i s),t.length<=64:=λt ht=>by
    obtain⟨j,_,rfl⟩:=EY.1 ht;rw[<-GO];exact((hW (i+j)).uf y5).len
   have Kv:=yJ N (A4 (c7 n x) (k-i) (AQ (c7 n x) i s)) ((A4 (c7 n x) (k-i) (AQ (c7 n x) i s)).map (ax n x)) false true true (by rw[FL];exact Dp) (by rw[va]) (by rw[FL];omega) (λt ht=>by have:=hIb t ht;omega);have ae:QL n x s (.j4 [.agg (DR (OQ (A4 (c7 n x) (k-i) (AQ (c7 n x) i s),(A4 (c7 n x) (k-i) (AQ (c7 n x) i s)).map (ax n x)))),.int .i64 i,.int .i64 0]):= .inl ⟨i,k,hi,O',hk,by rw[hT,Cz],rfl⟩;generalize dz:OQ (A4 (c7 n x) (k-i) (AQ (c7 n x) i s),(A4 (c7 n x) (k-i) (AQ (c7 n x) i s)).map (ax n x))=c at*;conv=>whnf
   skip
   refine ZK O' ?_;conv=>whnf
   skip
   refine ZK O' ?_;conv=>whnf
   rw[Aa,db];refine HQ (λ_=>rfl) O' ?_;rw[dm,zT (by rw[FL];omega)];conv=>whnf
   refine HQ (λ_=>rfl) H' ?_;rw[<-cg,dm,zT (by rw[va,FL];omega)];conv=>whnf
   (repeat' (refine AD (Kv) ?_<;>conv=>whnf))
   refine⟨_,AU rfl ?_,ae⟩;have:=VN c
   simp only[AY,BI]at this⊢;simpa using this
 ·have e:k=4097:=O'
  subst e;repeat' (first|apply AG<;>intro hc<;>try omega|apply AE)<;>conv=>whnf
  exact⟨_,AU rfl (by simp[AY,BI,DB]),.inr ⟨hk,rfl⟩⟩
theorem AiB(I:a8 L)(J:k7 L)(N:q6 L){n:Nt}{x:Int}{s:List Int}(hs:s.length<=1000000)(he:(ID n s x).2.2.2≠0)(q:Bool) :
  Ev L 436 [.agg (BX n),.sl q (s.map AZ),.int .i64 x] (.j4 [.agg [.sl false [],.sl false []],.int .i64 0,.int .i64 (ID n s x).2.2.2]):=by
 refine Ev.x N.MM rfl rfl ?_;have hS:=λq=>yW n I J s q x O'
 (repeat' (apply AE<;>conv=>whnf))
 refine N9.ints O' ?_;conv=>whnf
 skip
 refine IV ?_;repeat' (first|apply AG<;>intro hc<;>try omega|apply AE|refine AD (hS _) ?_)<;>conv=>whnf
 exact AU rfl (by simp[AY,BI,DB])
end Go.Eng

namespace Go.Eng
open F
set_option maxRecDepth 8000
variable {L:Lib} {kB:List Int->ByteArray}
section
variable {f:List Int->List Int} {g:List Int->Int} {box:List Int} {l:List (List (List Int) × List Int)}
theorem GX.len{B:List Int->Prop}{c:List (List Int)×List Int}{s:List Int}{k:Nat}(h:GX f g B c s k):c.1.length=k/\c.2.length=k:=by
 rw[h.st,h.out,va];exact⟨FL k s,FL k s⟩
theorem LK.of(h1:∀c∈l,∃s k,GX f g (B9 box) c s k)(h2:∀s,B9 box s->(∃c∈l,s∈c.1)\/∀n,0<n->AQ f n s≠s)(h3:l.Pairwise λc d=>∀s t,c.1[0]?=some s->d.1[0]?=some t->B0 s t<0):LK f g box l:=by
 refine⟨h1,λc s k hc=>?_,h3⟩;have hs:s∈A4 f k s:=EY.2 ⟨0,hc.pos,rfl⟩;rcases h2 s (hc.box s hs)with⟨d,hd,hm⟩|h
 ·obtain⟨u,m,hu⟩:=h1 d hd
  rw[(hc.uniq hu (by rw[hc.st];exact hs) hm).1];exact hd
 ·exact absurd hc.Am (h k hc.pos)
end
def Q3:Nt:=⟨⟨6,0,1,1⟩,⟨6,0,1,1⟩,1,true,[⟨true,[(1,-1)]⟩],true,[2],2⟩
def WA:List (List (List Int)×List Int):=[([[-1],[1]],[1,-1]),([[0]],[0])]
theorem Alf:LK (c7 Q3 0) (ax Q3 0) [1] WA:=by
 have a1:GX (c7 Q3 0) (ax Q3 0) (B9 [1]) ([[-1],[1]],[1,-1]) [-1] 2:=by
  refine⟨O',by decide +kernel,by decide +kernel,by decide +kernel,by decide +kernel,?_,by decide +kernel⟩;rw[show A4 (c7 Q3 0) 2 [-1]=[[-1],[1]]by decide +kernel];simp[B9]
 have a2:GX (c7 Q3 0) (ax Q3 0) (B9 [1]) ([[0]],[0]) [0] 1:=by
  refine⟨O',by decide +kernel,by decide +kernel,by decide +kernel,by decide +kernel,?_,by decide +kernel⟩;rw[show A4 (c7 Q3 0) 1 [0]=[[0]]by decide +kernel];simp[B9]
 refine LK.of ?_ ?_ ?_
 ·intro c hc
  simp only[WA,Fc,List.not_mem_nil,or_false]at hc;rcases hc with rfl|rfl
  ·exact⟨_,_,a1⟩
  ·exact⟨_,_,a2⟩
 ·intro s hs
  refine .inl ?_;match s,hs with
  |[v],⟨h,_⟩=>
   rcases(O':v = -1\/v=0\/v=1)with rfl|rfl|rfl
   ·exact⟨_,ua,ua⟩
   ·exact⟨_,Na _ ua,ua⟩
   ·exact⟨_,ua,Na _ ua⟩
 ·simp[WA]
  decide
attribute [local irreducible] AA AF AW AX A5 AB AH pw
theorem AiU(I:a8 L)(J:k7 L)(N:q6 L)(C:dh L)(Y:KJ L kB)(Z:VF L):Ev L 437 [] (.bool true):=by
 have hck:I2 Q3 0 [1]=0:=by decide +kernel
 obtain⟨v,hv,l,hl,rfl⟩:=yC I J N Y Z hck true;obtain rfl:=hl.uniq Alf;have i0:WA[((0:Int)).toNat]?=some ([[-1],[1]],[1,-1]):=rfl;have i1:WA[((1:Int)).toNat]?=some ([[0]],[0]):=rfl;have i2:([[-1],[1]]:List (List Int))[((0:Int)).toNat]?=some [-1]:=rfl;have iu:WA.length=2:=rfl;have s1:=λq=>fW I [-1] [-1] false q Y' Y'
 have s2:=λq=>fW I [1,-1] [1,-1] false q Y' Y'
 generalize WA=l at*;refine Ev.x C.ST rfl rfl ?_;(repeat' (apply AE<;>conv=>whnf))
 refine A2 rfl ?_;conv=>whnf
 repeat' (first|apply AG<;>intro hc<;>try omega|apply AP|refine A3 V' ?_ rfl ?_;omega|refine JF rfl ?_|refine ZW rfl rfl ?_|refine AD (hv) ?_|refine AD (s1 _) ?_|refine AD (s2 _) ?_)<;>conv=>whnf
 all_goals first|exact absurd rfl hc|exact EV Y'
end Go.Eng

namespace Go.Eng
open F
set_option maxRecDepth 8000
variable {L:Lib} {kB:List Int->ByteArray}
structure tP(c:List (List Int)×List Int):Prop where
 s:c.1.length<1000000
 o:c.2.length<1000000
 t:∀t∈c.1,t.length<1000000
theorem QL.out{n:Nt}{x:Int}{s:List Int}{v:AV}(y5:C6 n=true)(hx:FT n.d x)(hs:DW n s)(h:QL n x s v):∃(z:List (List Int)×List Int) (fr e:Int),v = .j4 [.agg (DR z),.int .i64 fr,.int .i64 e]/\tP z/\(e=0->∃u k,GX (c7 n x) (ax n x) (DW n) z u k)/\(e≠0->e=16/\z=([],[])):=by
 rcases h with⟨i,j,h1,h2,h3,h4,rfl⟩|⟨_,rfl⟩
 ·have dm:=YV (f:=c7 n x) i (j-i) s
  rw[show i+(j-i)=j by omega]at dm;have hW:=λk=>DW.it y5 hx k hs
  have pz:=pH (f:=c7 n x) (g:=ax n x) (B:=DW n) (p:=j-i) (u:=AQ (c7 n x) i s) O' (by rw[<-GO,show i+(j-i)=j by omega,h4]) (by rw[<-dm];exact h3.sublist (ie _ _)) (λt ht=>by
   obtain⟨m,_,rfl⟩:=EY.1 ht;rw[<-GO];exact hW _)
  have hl:=pz.len;refine⟨_,_,_,rfl,⟨O',O',λt ht=>?_⟩,λ_=>⟨_,_,pz⟩,λh=>absurd rfl h⟩;have:=((pz.box t (by rw[<-pz.st];exact ht)).uf y5).len
  omega
 ·exact⟨([],[]),_,_,rfl,⟨Z',Z',Z'⟩,λh=>(by cases h),λ_=>⟨rfl,rfl⟩⟩
attribute [local irreducible] AA AF AW AB AH pw
end Go.Eng

namespace Go.Eng
open Go.Lib (itoa decDigits itoa_length_le)
open Go.RowKit
def FK(s:List Int):List UInt8:=s.flatMap λv=>itoa v++[32]
def ON(s:List Int):ByteArray:=⟨(FK s).toArray⟩
theorem Ala(s:List Int)(v:Int):FK (s++[v])=FK s++(itoa v++[32]):=by simp[FK]
theorem oR:∀(s:List Int),(∀v∈s,C3 v)->(FK s).length<=22*s.length
 |[],_=>by simp[FK]
 |v::s,h=>by
  have h1:=oR s λx hx=>h x (Na _ hx)
  have h2:=h v ua;have h3:=itoa_length_le v h2.1 h2.2;simp only[FK,List.flatMap_cons,ja,Bc,List.length_nil]at*;omega
theorem X3{u:Nat}(h:u<10):decDigits u=[UInt8.ofNat (48+u)]:=by rw[decDigits,dif_pos h]
theorem X2{u:Nat}(h:¬u<10):decDigits u=decDigits (u/10)++[UInt8.ofNat (48+u%10)]:=by rw[decDigits,dif_neg h]
theorem Yg{a b:Nat}(ha:a<10)(hb:b<10)(h:UInt8.ofNat (48+a)=UInt8.ofNat (48+b)):a=b:=by
 have:=congrArg UInt8.toNat h
 rw[UInt8.toNat_ofNat',UInt8.toNat_ofNat']at this;omega
theorem Yh{a b:Nat}(ha:a<10)(hb:b<48):UInt8.ofNat (48+a)≠UInt8.ofNat b:=λh=>by
 have:=congrArg UInt8.toNat h
 rw[UInt8.toNat_ofNat',UInt8.toNat_ofNat']at this;omega
theorem wM(u:Nat):0<(decDigits u).length:=by
 by_cases h:u<10
 ·rw[X3 h];simp
 ·rw[X2 h];simp
theorem wK(u:Nat):∀w:Nat,decDigits u=decDigits w->u=w:=by
 induction u using lg with
 |_ u ih=>
  intro w h;by_cases hu:u<10<;>by_cases hw:w<10
  ·rw[X3 hu,X3 hw]at h
   exact Yg hu hw (Jb h).1
  ·rw[X3 hu,X2 hw]at h
   have h1:=congrArg Gg h;have h2:=wM (w/10);rw[ja,Ja,Ja]at h1;omega
  ·rw[X2 hu,X3 hw]at h
   have h1:=congrArg Gg h;have h2:=wM (u/10);rw[ja,Ja,Ja]at h1;omega
  ·rw[X2 hu,X2 hw]at h
   obtain⟨h1,h2⟩:=List.append_inj' h Z';have e1:=ih (u/10) O' _ h1;have e2:=Yg (da _ O') (da _ O') (Jb h2).1;omega
theorem wL(u:Nat):∀x∈decDigits u,∃a,a<10/\x=UInt8.ofNat (48+a):=by
 induction u using lg with
 |_ u ih=>
  intro x hx;by_cases hu:u<10
  ·rw[X3 hu,Fa]at hx
   exact⟨u,hu,hx⟩
  ·rw[X2 hu]at hx
   rcases ub.1 hx with h|h
   ·exact ih (u/10) O' x h
   ·exact⟨u%10,da _ O',Fa.1 h⟩
theorem Tx(v:Int):∀x∈itoa v,x≠32:=λx hx=>by
 have key:∀u,x∈decDigits u->x≠32:=λu h e=>by
  obtain⟨a,ha,e2⟩:=wL u x h;exact Yh ha (b:=32) O' (e2.symm.trans e)
 unfold itoa at hx;split at hx
 ·rcases Fc.1 hx with h|h
  ·rw[h];decide
  ·exact key _ h
 ·exact key _ hx
theorem Ak6{v w:Int}(h:itoa v=itoa w):v=w:=by
 have key:∀(u:Nat)(l:List UInt8),decDigits u≠45::l:=λu l e=>by
  obtain⟨a,ha,e2⟩:=wL u 45 (by rw[e];exact ua);exact Yh ha (b:=45) O' e2.symm
 unfold itoa at h;split at h<;>split at h
 ·have:=wK _ _ (Jb h).2;omega
 ·exact absurd h.symm (key _ _)
 ·exact absurd h (key _ _)
 ·have:=wK _ _ h;omega
theorem Anr{a b r t:List UInt8}(ha:∀x∈a,x≠32)(hb:∀x∈b,x≠32)(h:a++32::r=b++32::t):a=b/\r=t:=by
 induction a generalizing b with
 |nil=>cases b with
  |nil=>exact⟨rfl,(Jb h).2⟩
  |cons y b=>exact absurd (Jb h).1.symm (hb y ua)
 |cons x a ih=>cases b with
  |nil=>exact absurd (Jb h).1 (ha x ua)
  |cons y b=>
   obtain⟨h1,h2⟩:=Jb h;obtain⟨h3,h4⟩:=ih (λz hz=>ha z (Na _ hz)) (λz hz=>hb z (Na _ hz)) h2;exact⟨by rw[h1,h3],h4⟩
theorem gR(v:Int)(s:List Int):FK (v::s)=itoa v++32::FK s:=by simp[FK]
theorem Ua:∀{s t:List Int},FK s=FK t->s=t
 |[],[],_=>rfl
 |[],w::t,h=>by rw[gR]at h;simp[FK]at h
 |v::s,[],h=>by rw[gR]at h;simp[FK]at h
 |v::s,w::t,h=>by
  rw[gR,gR]at h;obtain⟨h1,h2⟩:=Anr (Tx v) (Tx w) h;rw[Ak6 h1,Ua h2]
theorem Ak8{s t:List Int}(h:ON s=ON t):s=t:=by
 refine Ua ?_;have h:(FK s).toArray=(FK t).toArray:=congrArg ByteArray.data h;simpa using h
theorem Ak9(s:List Int)(h:GY s):(ON s).size<=100000:=by
 have h1:=oR s h.Hz;have h2:=h.len;show(FK s).toArray.size<=100000;rw[List.size_toArray];omega
open Classical in
noncomputable def aM(f:Nat)(vs:w_):Option AV:=if h:f=432/\∃s,GY s/\∃q,vs=[.sl q (s.map AZ)]then some (.x7 (.string (ON h.2.choose)))else none
theorem xV:∀{s t:List Int},s.map AZ=t.map AZ->s=t
 |[],[],_=>rfl
 |v::s,w::t,h=>by
  simp only[Ab,List.cons.injEq,AV.int.injEq,true_and,and_true]at h;rw[h.1,xV h.2]
theorem Rg{f:Nat}{vs:w_}{r:AV}(h:aM f vs=some r):f=432/\∃s,GY s/\(∃q,vs=[.sl q (s.map AZ)])/\r = .x7 (.string (ON s)):=by
 unfold aM at h;split at h
 ·rename_i hx
  obtain rfl:=na h;exact⟨hx.1,_,hx.2.choose_spec.1,hx.2.choose_spec.2,rfl⟩
 ·cases h
theorem AjV(q:Bool){s:List Int}(hs:GY s):aM 432 [.sl q (s.map AZ)]=some (.x7 (.string (ON s))):=by
 have hx:(432:Nat)=432/\∃t,GY t/\∃q',[AV.sl q (s.map AZ)]=[.sl q' (t.map AZ)]:=⟨rfl,s,hs,q,rfl⟩;unfold aM;rw[dif_pos hx];obtain⟨_,q',e⟩:=hx.2.choose_spec;exact congrArg (λt=>some (AV.x7 (.string (ON t)))) (xV (AV.sl.inj (Jb e).1).2).symm
open Classical in
noncomputable def Z8(L0:Lib)(f:Nat)(vs:w_):Option AV:=if h:f=435/\∃r,Ev L0 f vs r then some h.2.choose else none
theorem AgI{L0:Lib}{f:Nat}{vs:w_}{r:AV}(h:Z8 L0 f vs=some r):f=435/\Ev L0 f vs r:=by
 unfold Z8 at h;split at h
 ·rename_i hx
  obtain rfl:=na h;exact⟨hx.1,hx.2.choose_spec⟩
 ·cases h
theorem AgH{L0:Lib}{vs:w_}{r:AV}(h:Ev L0 435 vs r):Z8 L0 435 vs=some r:=by
 have hx:(435:Nat)=435/\∃r,Ev L0 435 vs r:=⟨rfl,r,h⟩;unfold Z8;rw[dif_pos hx];exact congrArg some (hx.2.choose_spec.zm h)
def sC(f:Nat):Option Nat:=if f=434 then some 2 else none
noncomputable def dD(fn:Nat->Option AFn)(num:Nat->Nat):Lib:={ fn:=fn,num:=num,ext:=aM,cmp:=Z8 { fn:=fn,num:=num },ff:=sC }
theorem Alc{fn:Nat->Option AFn}{num:Nat->Nat}(h:fn 432=none):KJ (dD fn num) ON:=⟨h,λq s hs=>AjV q hs,λs t _ _ e=>Ak8 e,Ak9⟩
theorem Anu{fn:Nat->Option AFn}{num:Nat->Nat}(N:F.q6 { fn:=fn,num:=num })(h:num 435=F.vz):VF (dD fn num):=by
 refine⟨rfl,h,λc d s t h1 h2 h3 h4=>?_⟩;exact AgH (Aix N c d s t h1 h2 O' O')
def tV(P:Program)(n:Nat)(I:EL):Prop:=(∀(us:Array Value)(w:World),(callFunc n us).run P w = .ok (.enter n us) w) /\
 ∀(W:World)(xa:Option Addr)(xb xo cap:Nat)(s:List Int),I.ok W->(0<s.length->xa=some ⟨xb,xo,none⟩)->(∀i v,s[i]?=some v->W.cell? ⟨xb,xo+i,none⟩=some (.int .i64 v))->GY s ->
  Calls P n #[.slice xa s.length cap] W λe w'=>e = .returned (.string (ON s))/\Below W.heap.size W w'
theorem Amp{fn:Nat->Option AFn}{num:Nat->Nat}{P:Program}{I:EL}(hP:ProgOK P num { fn:=fn,num:=num })(hI:¬I.D)(hk:tV P (num 432) I)(hs:dO P (num 434) 2):XJ I P num (dD fn num):=by
 refine⟨⟨hP.1,rfl⟩,λf vs r _ h us w=>?_,λf vs r _ h hc S w us hw hl ha=>?_,λf vs r h=>?_,λfs k h=>?_⟩
 ·obtain⟨rfl,_⟩:=Rg h
  exact hk.1 us w
 ·obtain⟨rfl,s,k6,⟨q,rfl⟩,rfl⟩:=Rg h
  obtain⟨u,rfl⟩:∃u,us=[u]:=by
   match us,hl with
   |[u],_=>exact⟨u,rfl⟩
  have h0:=ha 0 _ u rfl rfl;have key:∃xa xb xo cap,u = .slice xa s.length cap/\(0<s.length->xa=some ⟨xb,xo,none⟩)/\(∀i v,s[i]?=some v->w.cell? ⟨xb,xo+i,none⟩=some (.int .i64 v)):=by
   generalize fi:s.map AZ=es at h0;have hlen:s.length=es.length:=by rw[<-fi,va]
   cases h0 with
   |one h0=>cases h0 with
    |rd h0=>cases h0 with
     |jb l a cap=>
      have:s=[]:=List.eq_nil_of_length_eq_zero (by rw[hlen];rfl)
      subst this;exact⟨a,0,0,cap,rfl,λh=>absurd h Z',λi v h=>by simp at h⟩
     |sl l es b o a7 cap u o7 hp hR bq hz s8 jx=>
      have fw:∀i v,s[i]?=some v->es[i]?=some [AV.int .i64 v]:=λi v h=>by rw[<-fi,Ca,h];rfl
      refine⟨_,b,o,cap,by rw[hlen],λ_=>rfl,λi v h=>?_⟩;have h1:=fw i v h;have h2:=hz _ (zM h1);have h2:1=a7:=h2;subst h2;have h3:=s8 i _ h1 0 _ rfl;have h4:=jx i _ h1 0 _ rfl;rw[Cd,La]at h3;rw[h3];generalize u i 0=y at h4;cases h4;rfl
  obtain⟨xa,xb,xo,cap,rfl,k1,k2⟩:=key;refine(hk.2 w xa xb xo cap s hw k1 k2 k6).mono λe w' ⟨he,hb⟩=>⟨_,he,⟨hb,λh=>absurd h hI⟩,.ca (.one (.rd (.str _))),hc⟩
 ·obtain⟨rfl,n,hn⟩:=AgI h
  have hc:=vC (XJ.of (I:=EL.Pp True) hP (λ_ _=>rfl) (λ_ _=>rfl) (λ_=>rfl)) n;refine⟨hc.px _ _ _ hn,λS w us hl ha=>?_⟩;exact(hc.pure _ _ _ hn S w us trivial hl ha).mono λe w' ⟨u,h1,h2,h3,_⟩=>⟨u,h1,h2,h3⟩
 ·change sC fs=some k at h
  unfold sC at h;split at h
  ·rename_i e
   obtain rfl:=na h;subst e;exact hs
  ·cases h
end Go.Eng

namespace Go.Eng
open F
variable {L:Lib}
theorem Bt.sm{k:Nat}{x:Rat}(h:Bt k x)(hk:k<2199023255552):Sm 68719476736 (dg x.num.natAbs)/\Sm 68719476736 (dg x.den):=h.dig O'
theorem J4(N:a6 L){x y:Rat}{k l:Nat}(hx:Bt k x)(hy:Bt l y)(hk:k<2199023255552)(hl:l<2199023255552):Ev L 98 [.agg (eQ x),.agg (eQ y)] (.agg (eQ (x+y))):=by
 have:=zN N 68719476736 O' (decide (x.num<0)) (decide (y.num<0)) false false false false _ _ _ _ (hx.sm hk).1 (hx.sm hk).2 (hy.sm hl).1 (hy.sm hl).2
 rw[FX,FX]at this;exact this
theorem KU(N:a6 L){x y:Rat}{k l:Nat}(hx:Bt k x)(hy:Bt l y)(hk:k<2199023255552)(hl:l<2199023255552):Ev L 99 [.agg (eQ x),.agg (eQ y)] (.agg (eQ (x*y))):=by
 have:=zO N 68719476736 O' (decide (x.num<0)) (decide (y.num<0)) false false false false _ _ _ _ (hx.sm hk).1 (hx.sm hk).2 (hy.sm hl).1 (hy.sm hl).2
 rw[FX,FX]at this;exact this
theorem mQ(N:a6 L){x y:Rat}{k l:Nat}(hx:Bt k x)(hy:Bt l y)(hk:k<2199023255552)(hl:l<2199023255552)(h0:y≠0):Ev L 100 [.agg (eQ x),.agg (eQ y)] (.j4 [.agg (eQ (x/y)),.int .i64 0]):=by
 have:=AjC N 68719476736 O' (decide (x.num<0)) (decide (y.num<0)) false false false false _ _ _ _ (hx.sm hk).1 (hx.sm hk).2 (hy.sm hl).1 (hy.sm hl).2 (by rw[FX];exact h0)
 rw[FX,FX]at this;exact this
theorem AjM(N:a6 L){x:Rat}{k:Nat}(hx:Bt k x)(hk:k<2199023255552):Ev L 95 [.agg (eQ x)] (.agg (eQ x)):=by
 have:=zQ N (decide (x.num<0)) false false _ _ ((hx.sm hk).1.le O') ((hx.sm hk).2.le O')
 rw[FX]at this;exact this
theorem nJ(N:a6 L){x:Rat}{k:Nat}(hx:Bt k x)(hk:k<2199023255552):Ev L 97 [.agg (eQ x)] (.int .i64 (v7 x.num)):=by
 have:=zP N (decide (x.num<0)) false false _ _ ((hx.sm hk).1.le O') ((hx.sm hk).2.le O')
 rw[FX]at this;exact this
theorem cD{x:Rat}:v7 x.num=0↔x=0:=by
 rw[<-Rat.num_eq_zero];unfold v7;split
 ·omega
 ·split<;>omega
end Go.Eng

namespace Go.Eng
open F
attribute [local irreducible] AA AF AW AB A8 AH pw CG
variable {L:Lib}
theorem Amt(n:Bool)(m d:u_):qv (!n) m d = -(qv n m d):=by
 unfold qv;have h:zv (!n) m = -(zv n m):=by cases n<;>simp[zv]
 rw[h,Ng]
theorem AgF(n:Bool)(m d:u_):AY (.agg (rQ false false n m d)):=by
 simp only[AY,BI,and_true,true_and];exact⟨CS _,CS _⟩
theorem AiK(N:au L)(n:Bool)(m d:u_):Ev L 149 [.agg (rQ false false n m d)] (.agg (rQ false false (!n) m d)):=by
 refine Ev.x N.TL rfl rfl ?_;cases n;all_goals
  (repeat' (apply AE<;>conv=>whnf))
  exact AU rfl (AgF _ _ _)
theorem AjK(N:au L){x y:Rat}{k l:Nat}(hx:Bt k x)(hy:Bt l y)(hk:k<2199023255552)(hl:l<2199023255552):Ev L 150 [.agg (eQ x),.agg (eQ y)] (.agg (eQ (x-y))):=by
 have hF:=AiK N (decide (y.num<0)) (dg y.num.natAbs) (dg y.den);have hA:=λq3 q4=>zN N.toa6 68719476736 O' (decide (x.num<0)) (!decide (y.num<0)) false false q3 q4 _ _ _ _ (hx.sm hk).1 (hx.sm hk).2 (hy.sm hl).1 (hy.sm hl).2
 rw[Amt,FX,FX,<-Af]at hA;refine Ev.x N.TJ rfl rfl ?_;repeat' (first|apply AeX|apply AE|refine AD (hF) ?_|refine AD (hA _ _) ?_)<;>conv=>whnf
 exact AU rfl (DG _)
theorem AlK{x y:Int}(h:y≠0):mkRat (y.sign*x) y.natAbs=Mc x y:=by
 obtain⟨d,hd|hd⟩:=Int.eq_nat_or_neg y
 ·subst hd
  rw[kd O',De,Jc,kc]
 ·subst hd
  rw[pf O',bg,Jc,Rat.divInt_neg',kc,Int.neg_one_mul]
theorem yD(N:au L)(x y:Int)(hx:-9223372036854775808<=x/\x<=9223372036854775807)(hy:-9223372036854775808<=y/\y<=9223372036854775807)(h0:y≠0):Ev L 151 [.int .i64 x,.int .i64 y] (.agg (eQ (Mc x y))):=by
 have h1:=mS N.toa6 x hx;have h2:=mS N.toa6 y hy;have g1:Sm 2 (dg x.natAbs):=Sm.dg O';have g2:Sm 2 (dg y.natAbs):=Sm.dg O';have hl:=λq1 q2=>X8 N.toa6 (decide (x<0) != decide (y<0)) q1 q2 (dg x.natAbs) (dg y.natAbs) (g1.le O') (g2.le O') (by rw[BN];omega)
 unfold qv at hl;rw[Zu h0,BN,AlK h0]at hl;refine Ev.x N.TG rfl rfl ?_;repeat' (first|apply AG<;>intro hc<;>try omega|apply AE|refine AD (h1) ?_|refine AD (h2) ?_)<;>conv=>whnf
 refine EK 1000 N.PE rfl rfl ?_;(repeat' (apply AE<;>conv=>whnf))
 generalize decide (x<0)=p at*;generalize decide (y<0)=r at*;cases p<;>cases r;all_goals
  (conv=>whnf)
  refine⟨rfl,?_⟩;conv=>whnf
  (repeat' (refine AD (hl _ _) ?_<;>conv=>whnf))
  exact AU rfl (DG _)
theorem nT{l:o_}{i:Nat}{x:Rat}(h:l[i]?=some x):l.getD i 0=x:=by rw[xf,h];rfl
theorem rN(z:Int):v7 z = -1/\z<0\/v7 z=0/\z=0\/v7 z=1/\0<z:=by
 unfold v7;split
 ·exact Or.inl ⟨rfl,O'⟩
 ·split
  ·exact Or.inr (Or.inr ⟨rfl,O'⟩)
  ·exact Or.inr (Or.inl ⟨rfl,O'⟩)
theorem AgM{a b:Nat}{z:Int}(h:z=(a:Int)-b):C4 a b=v7 z:=by
 unfold C4 v7;subst h;repeat' split
 all_goals omega
theorem yO(N:cb L)(n1 n2 q1 q2:Bool)(a b:u_)(ha:Sm 549755813888 a)(hb:Sm 549755813888 b):Ev L 197 [.agg (rZ q1 n1 a),.agg (rZ q2 n2 b)] (.int .i64 (v7 (zv n1 a-zv n2 b))):=by
 have h1:=λq=>fP N.toa6 n1 q a ha
 have h2:=λq=>fP N.toa6 n2 q b hb
 have h3:=λq q'=>QW N.toc6 a b q q' ha.1 hb.1 (by have:=ha.2;omega) (by have:=hb.2;omega)
 have h4:=λq q'=>QW N.toc6 b a q q' hb.1 ha.1 (by have:=hb.2;omega) (by have:=ha.2;omega)
 have za:=FH n1 a;have zb:=FH n2 b;generalize zv n1 a=x at*;generalize zv n2 b=y at*;rcases rN x with⟨e1,g1⟩|⟨e1,g1⟩|⟨e1,g1⟩<;>rcases rN y with⟨e2,g2⟩|⟨e2,g2⟩|⟨e2,g2⟩
 all_goals
  rw[e1]at h1;rw[e2]at h2;refine Ev.x N.SK rfl rfl ?_;repeat' (first|apply AG<;>intro hc<;>try omega|apply AE|refine AD (h1 _) ?_|refine AD (h2 _) ?_|refine AD (h3 _ _) ?_|refine AD (h4 _ _) ?_)<;>conv=>whnf
  first
   |exact BM (rO O')
   |exact BM (rP O')
   |exact BM (AgM O')
theorem AjB(N:cb L)(k:Nat)(hk:1<=k/\k<=68719476736)(n1 n2:Bool)(m1 d1 m2 d2:u_)(ig:Sm k m1)(ox:Sm k d1)(iy:Sm k m2)(ry:Sm k d2) :
  Ev L 198 [.agg (rQ false false n1 m1 d1),.agg (rQ false false n2 m2 d2)] (.int .i64 (v7 (qv n1 m1 d1-qv n2 m2 d2).num)):=by
 obtain⟨a1,a2,a3,w1,fo,s1,s2,s3,s4,s5⟩:=NR N.toa6 n1 m1 d1 k O' ig ox;obtain⟨b1,b2,b3,w2,dd,t1,t2,t3,t4,t5⟩:=NR N.toa6 n2 m2 d2 k O' iy ry;rw[s5,t5,<-Th s3 t3];by_cases hw:w1=true/\w2=true
 ·obtain⟨rfl,rfl⟩:=hw
  have hC:=λq q'=>yO N a1 b1 q q' a2 b2 (s1.le O') (t1.le O')
  rw[s4 rfl,t4 rfl];rw[show zv a1 a2*((1:Nat):Int)-zv b1 b2*((1:Nat):Int)=zv a1 a2-zv b1 b2 by omega];refine Ev.x N.PC rfl rfl ?_;repeat' (first|apply H2|apply AE|refine AD (fo) ?_|refine AD (dd) ?_|refine AD (hC _ _) ?_)<;>conv=>whnf
  exact BM rfl
 ·have ka:=λq q'=>V0 N.toa6 a1 false q q' a2 b3 s1.1 t2.1 (by have:=s1.2;have:=t2.2;omega)
  have mq:=λq q'=>V0 N.toa6 b1 false q q' b2 a3 t1.1 s2.1 (by have:=t1.2;have:=s2.2;omega)
  have vf:=V2 N.toa6 a3;have vg:=V2 N.toa6 b3;have g1:Sm (k+k) (dg (zv a1 a2*zv false b3).natAbs):=WY s1 t2;have g2:Sm (k+k) (dg (zv b1 b2*zv false a3).natAbs):=WY t1 s2;have hC:=λq q'=>yO N (decide (zv a1 a2*zv false b3<0)) (decide (zv b1 b2*zv false a3<0)) q q' _ _ (g1.le O') (g2.le O')
  rw[GK,GK]at hC;rw[<-E4 b3,<-E4 a3];generalize zv a1 a2*zv false b3=x at*;generalize zv b1 b2*zv false a3=y at*;refine Ev.x N.PC rfl rfl ?_;cases w1<;>cases w2
  ·repeat' (first|apply H2|apply RN|apply AE|refine AD (fo) ?_|refine AD (dd) ?_|refine AD (vf) ?_|refine AD (vg) ?_|refine AD (ka _ _) ?_|refine AD (mq _ _) ?_|refine AD (hC _ _) ?_)<;>conv=>whnf
   exact BM rfl
  ·repeat' (first|apply H2|apply RN|apply AE|refine AD (fo) ?_|refine AD (dd) ?_|refine AD (vf) ?_|refine AD (vg) ?_|refine AD (ka _ _) ?_|refine AD (mq _ _) ?_|refine AD (hC _ _) ?_)<;>conv=>whnf
   exact BM rfl
  ·repeat' (first|apply H2|apply RN|apply AE|refine AD (fo) ?_|refine AD (dd) ?_|refine AD (vf) ?_|refine AD (vg) ?_|refine AD (ka _ _) ?_|refine AD (mq _ _) ?_|refine AD (hC _ _) ?_)<;>conv=>whnf
   exact BM rfl
  ·exact absurd ⟨rfl,rfl⟩ hw
theorem mP(N:cb L){x y:Rat}{k l:Nat}(hx:Bt k x)(hy:Bt l y)(hk:k<2199023255552)(hl:l<2199023255552):Ev L 198 [.agg (eQ x),.agg (eQ y)] (.int .i64 (v7 (x-y).num)):=by
 have:=AjB N 68719476736 O' (decide (x.num<0)) (decide (y.num<0)) _ _ _ _ (hx.sm hk).1 (hx.sm hk).2 (hy.sm hl).1 (hy.sm hl).2
 rw[FX,FX]at this;exact this
def CY(n:Nt):List (List (Int×Int)):=n.nodes.map Nd.ts
def GS(n:Nt)(src ex:Int):o_:=G0 ((pw n.c.f:Int):Rat) ex 0 (CZ (1+n.s).toNat src) (CY n)
theorem iJ{c:Wd}{s:Int}:∀{l:List Nd}{k j:Nat}{nd:Nd},GP c s k l=true->l[j]?=some nd->nd.ts.all (H0 c s (k+j))=true
 |[],_,_,_,_,h=>by simp at h
 |e::l,k,0,nd,hb,h=>by
  simp only[List.getElem?_cons_zero,Lc]at h;subst h;simp only[GP,Mb]at hb;exact hb.1.2
 |e::l,k,j+1,nd,hb,h=>by
  simp only[List.getElem?_cons_succ]at h;simp only[GP,Mb]at hb;rw[show k+(j+1)=k+1+j by omega];exact iJ hb.2 h
theorem An4(m p:Nat):(ga m (0:Rat)).set p 1=CZ m p:=by
 refine je λj=>?_
 simp only[CZ,Hc,Ca,Ac,Ld];by_cases h:j<m
 ·rw[Bb h]
  by_cases e:p=j
  ·subst e;simp[h]
  ·simp[h,e];intro h3;omega
 ·rw[oc (by simpa using h)]
  simp[h];intro e;omega
theorem Bs.unit(k m:Nat)(p:Int):Bs k (CZ m p):=by
 intro x hx;simp only[CZ,eb]at hx;obtain⟨a,_,rfl⟩:=hx;split
 ·exact Bt.one k
 ·exact Bt.zero k
def FC(n:Nt):HI where
 a:=n.next.map λe=>(yf n.s.toNat).map λ(j:Nat)=>(GS n ((j:Int)+1) (-1)).getD e.toNat 0
 b:=n.next.map λe=>(GS n 0 (-1)).getD e.toNat 0
 c:=(yf n.s.toNat).map λ(j:Nat)=>(GS n ((j:Int)+1) (-1)).getD n.out.toNat 0
 d:=(GS n 0 (-1)).getD n.out.toNat 0
def fz{α:Type}(z:α)(l:List α)(m:Nat):List α:=l++ga (m-l.length) z
theorem Rx{α:Type}{z:α}{l:List α}{m:Nat}(h:l.length<=m):(fz z l m).length=m:=by simp[fz];omega
theorem Ry{α:Type}{z x:α}{l:List α}{m:Nat}(h:l.length<m):(fz z l m).set l.length x=fz z (l++[x]) m:=by
 unfold fz;obtain⟨k,hk⟩:∃k,m-l.length=k+1:=⟨m-l.length-1,O'⟩;rw[pc _ _ Z',hk,vd,List.replicate_succ,List.set_cons_zero,ja,Ja,show m-(l.length+1)=k by omega,Gc];rfl
theorem Ru{α:Type}{z:α}{l:List α}{m:Nat}(h:l.length<m):(fz z l m)[l.length]?=some z:=by
 unfold fz;rw[List.getElem?_append_right O',vd,Ac,if_pos O']
theorem Rv{α:Type}{z:α}{l:List α}{m:Nat}(h:l.length=m):fz z l m=l:=by simp[fz,h]
theorem sQ{α:Type}{l:List α}{i:Nat}{x:α}(h:l[i]?=some x):l.take (i+1)=l.take i++[x]:=by
 rw[pe,h];rfl
def cf(l:o_)(prev:List (Option Rat))(i:Nat):List (Option Rat):=(l.take i).map some++prev.drop i
end Go.Eng

namespace Go.Eng
open F
attribute [local irreducible] AA AF AW AB AH pw
variable {L:Lib}
structure RwN where
 n:Bool
 m:u_
 d:u_
abbrev eW(w:RwN):w_:=rQ false false w.n w.m w.d
section program
end program
section reference
end reference
end Go.Eng

namespace Go.Eng
open F
attribute [local irreducible] AA AF AW AB AH pw AC EC AX BG CM BS D7 A5
variable {L:Lib}
set_option maxRecDepth 8000
theorem AiO(N:w4 L)(s box:List Int)(q1 q2:Bool)(hl:s.length=box.length)(hb:∀b∈box,0<=b/\b<=9223372036854775807)(hx:box.length<9223372036854775808):Ev L 442 [.sl q1 (s.map AZ),.sl q2 (box.map AZ)] (.bool (JX box s)):=by
 refine Ev.x N.P5 rfl rfl ?_;(repeat' (apply AE<;>conv=>whnf))
 refine C0 (λi=>s.length-i) (λ(i:Nat)=>i<=s.length/\JX (box.drop i) (s.drop i)=JX box s) (λi=>[(5,.int .i64 i)]) (λ_=>[]) 0 ⟨O',rfl⟩ ?_;intro i ⟨p1,p2⟩ ih;by_cases hi:i<s.length
 ·obtain⟨v,hv⟩:=N' s i hi
  obtain⟨b,ib⟩:=N' box i;have ou:=hb b (zM ib);rw[CW hv,CW ib,JX]at p2;repeat' (first|apply AG<;>intro hc<;>try omega|apply AR;omega|apply EC.neg;omega|apply AP|refine A3 V' ?_ rfl ?_;omega|apply AE)<;>conv=>whnf
  ·rw[decide_eq_false O',jg]at p2
   exact EV p2
  ·rw[decide_eq_false O',jg]at p2
   exact EV p2
  ·rw[decide_eq_true O',Bool.true_and]at p2
   exact BC [] (ih (i+1) O' ⟨O',p2⟩)
 ·rw[ES O',ES O']at p2
  repeat' (first|apply AG<;>intro hc<;>try omega|apply AP|apply AE)<;>conv=>whnf
  exact EV p2
theorem zU(N:w4 L)(box:List Int)(q:Bool)(h0:∀b∈box,0<=b/\b<=8388607)(hx:box.length<9223372036854775808):Ev L 443 [.sl q (box.map AZ)] (.int .i64 (if JD box 1 then 4097 else(BU box:Int))):=by
 refine Ev.x N.P2 rfl rfl ?_;(repeat' (apply AE<;>conv=>whnf))
 refine DT (λi _=>box.length-i) (λ(i:Nat)(a:Int)=>i<=box.length/\0<=a/\a<=4096/\JD box 1=JD (box.drop i) a/\(BU box:Int)=a*(BU (box.drop i):Int)) (λi a=>[(4,.int .i64 i),(3,.int .i64 a)]) (λ_ _=>[]) 0 1 ⟨O',O',O',rfl,by rw[ya,De]⟩ ?_;intro i a ⟨p1,p2,p3,p4,p5⟩ ih;by_cases hi:i<box.length
 ·obtain⟨b,ib⟩:=N' box i hi
  obtain⟨jd,ou⟩:=h0 b (zM ib);have Bw:0<=a*(2*b+1):=Bd p2 O';have ig:a*(2*b+1)<=4096*16777215:=Og p3 O' O' O';rw[CW ib,JD]at p4;rw[CW ib,BU,Hb,Nb O',<-Lg]at p5;repeat' (first|apply AG<;>intro hc<;>try omega|apply AR;omega|apply F3;omega|apply AP|refine A3 V' ?_ rfl ?_;omega|apply AE)<;>conv=>whnf
  ·rw[if_pos O']at p4
   rw[p4];exact BM rfl
  ·rw[if_neg O']at p4
   exact A9 [] E' (ih (i+1) _ O' ⟨O',Bw,O',p4,p5⟩)
 rw[ES O',JD]at p4;rw[ES O',BU,Int.natCast_one,Int.mul_one]at p5;rw[p4,if_neg Y',p5];repeat' (first|apply AG<;>intro hc<;>try omega|apply AP|apply AE)<;>conv=>whnf
 exact BM rfl
theorem AiN(N:w4 L)(s box:List Int)(q1 q2:Bool)(h:B9 box s)(ht:BU box<=4096)(hb:∀b∈box,0<=b/\b<=8388607)(hx:box.length<9223372036854775808):Ev L 445 [.sl q1 (s.map AZ),.sl q2 (box.map AZ)] (.int .i64 (B2 box s:Int)):=by
 have hl:=Q1 h;have hid:=JI h;refine Ev.x N.P4 rfl rfl ?_;(repeat' (apply AE<;>conv=>whnf))
 refine DT (λi _=>box.length-i) (λ(i a:Nat)=>i<=box.length/\a*BU (box.drop i)+B2 (box.drop i) (s.drop i)=B2 box s) (λi a=>[(6,.int .i64 i),(5,.int .i64 a)]) (λ_ _=>[]) 0 0 ⟨O',by rw[Pc,db];rfl⟩ ?_;intro i a ⟨p1,p2⟩ ih;have ha:a<=4096:=by
  have:=Yf (box:=box.drop i) λb j8=>(hb b (Hd j8)).1
  have:=Pf a this
  omega
 by_cases hi:i<box.length
 ·obtain⟨b,ib⟩:=N' box i hi
  obtain⟨v,Hl⟩:=N' s i;obtain⟨jd,ou⟩:=hb b (zM ib);obtain⟨v0,v1⟩:=aX h Hl ib;rw[CW ib,CW Hl]at p2;simp only[B2,BU]at p2;rw[<-Cc,<-ef,<-Ge]at p2;have ig:(a:Int)*(2*b+1)<=4096*16777215:=Og O' O' O' O';have Bw:0<=(a:Int)*(2*b+1):=Bd O' O';have e:(a:Int)*(2*b+1)+v+b=((a*(2*b+1).toNat+(v+b).toNat:Nat):Int):=by
   rw[ec,Hb,Nb O',Nb O'];omega
  repeat' (first|apply AG<;>intro hc<;>try omega|apply AR;omega|apply F3;omega|apply AP|refine A3 V' ?_ rfl ?_;omega|apply AE)<;>conv=>whnf
  rw[e];exact A9 [] E' (ih (i+1) _ O' ⟨O',p2⟩)
 rw[ES (l:=box) O',ES (l:=s) O']at p2;simp only[B2,BU,Cd,La]at p2;rw[<-p2];repeat' (first|apply AG<;>intro hc<;>try omega|apply AP|apply AE)<;>conv=>whnf
 exact BM rfl
theorem mX(N:w4 L)(k:Nat)(box:List Int)(q:Bool)(hk:k<=4096)(hb:∀b∈box,0<=b/\b<=8388607)(hx:box.length<=1000000):Ev L 444 [.int .i64 (k:Int),.sl q (box.map AZ)] (.sl false ((FD box k).map AZ)):=by
 refine Ev.x N.P6 rfl rfl ?_;repeat' (first|apply AP|apply AE)<;>conv=>whnf
 refine E6 (enc:=AZ) 0 box.length rfl rfl O' ?_;conv=>whnf
 repeat' (first|apply BP;omega|apply AP)<;>conv=>whnf
 refine DP (λi=>i) (λ(i:Nat)=>i<=box.length) (λi=>[(6,.int .i64 ((i:Int)-1)),(0,.int .i64 ((k/BU (box.drop i):Nat):Int))]) (λi=>[(9,9,.rw 1 ((ga i 0++FD (box.drop i) k).map AZ))]) [] [] box.length (by rw[Je];simp only[BU,FD,He,od];exact E') O' ?_;intro i p1 ih;rcases i with _|i
 ·rw[ya,List.replicate_zero,Fe]
  clear ih;have ep:=pX box k;repeat' (first|apply AG<;>intro hc<;>try omega|apply AE)<;>conv=>whnf
  refine CR (λ_=>rfl) rfl (by rw[ep]) ?_;conv=>whnf
  exact AU rfl (by simp[AY,KO])
 ·obtain⟨b,ib⟩:=N' box i
  obtain⟨jd,ou⟩:=hb b (zM ib);have hd:=CW ib;have jm:k/BU (box.drop (i+1))<=4096:=Nat.le_trans (Ae _ _) hk;have hnu:FD (box.drop i) k=(((k/BU (box.drop (i+1))%(2*b+1).toNat:Nat):Int)-b)::FD (box.drop (i+1)) k:=by rw[hd,FD]
  have hto:k/BU (box.drop i)=k/BU (box.drop (i+1))/(2*b+1).toNat:=by rw[hd,BU,Ga,Ff]
  have rf:=ih i O' O';rw[hnu,hto]at rf;have ep:=pX (box.drop (i+1)) k;rw[Me]at ep;generalize FD (box.drop (i+1)) k=r at*;generalize k/BU (box.drop (i+1))=j at*;have bj:∀y:Int,(ga (i+1) 0++r).set i y=ga i 0++y::r:=λy=>by
   rw[List.replicate_succ',Gc,pc _ _ Z',Ld,vd];rfl
  have lk:(ga (i+1) (0:Int)++r).length=box.length:=by rw[ja,Ld,ep];omega
  have e1:((i+1:Nat):Int)-1=(i:Int):=O'
  have ig:(j:Int)%(2*b+1)=((j%(2*b+1).toNat:Nat):Int):=by rw[Int.natCast_emod,Nb O']
  have wu:(j:Int)/(2*b+1)=((j/(2*b+1).toNat:Nat):Int):=by rw[Int.natCast_ediv,Nb O']
  have ABm:=da j (show 0<(2*b+1).toNat by omega);rw[e1];generalize ga (i+1) 0++r=o at*;repeat' (first|apply AG<;>intro hc<;>try omega|apply A2;omega|apply AR;omega|apply BP;omega|apply F3;omega|(refine IZ ?_ (λ_ _ _=>?_) (λ_ _ _ _=>?_);omega;all_goals try omega)|refine A3 V' ?_ rfl ?_;omega|apply AE)<;>conv=>whnf
  refine HS (enc:=AZ) (((j%(2*b+1).toNat:Nat):Int)-b) (by rw[ig]) (λ_=>rfl) O' ?_;rw[bj];conv=>whnf
  repeat' (first|apply AR;omega|apply BP;omega|apply F3;omega|(refine KM ?_ ?_ (λ_=>?_) (λ_ _=>?_);omega;omega;all_goals try omega)|refine A3 V' ?_ rfl ?_;omega)<;>conv=>whnf
  rw[wu];exact A9 [] E' rf
theorem nF(I:a8 L)(J:k7 L){n:Nt}{x:Int}{s:List Int}(hv:C6 n=true)(hx:FT n.d x)(h:DW n s)(q:Bool):Ev L 30 [.agg (BX n),.sl q (s.map AZ),.int .i64 x] (.j4 [.sl false ((c7 n x s).map AZ),.int .i64 (ax n x s),.bool (FS n (x::s) false n.nodes).2,.int .i64 0]):=by
 have:=zW n I J s q x (by have:=h.len;obtain⟨_,_,g3,_⟩:=(CP n).1 hv;omega)
 rwa [Zj n hv h.len h.wd hx]at this
theorem zV(I:a8 L)(J:k7 L)(N:w4 L){n:Nt}{x:Int}{s:List Int}{p:Nat}(hv:C6 n=true)(hx:FT n.d x)(hs:DW n s)(hp:0<p)(hp4:p<=5000)(dt:AQ (c7 n x) p s=s)(hnd:(A4 (c7 n x) p s).Nodup) :
  Ev L 446 [.agg (BX n),.int .i64 x,.sl false (s.map AZ)] (.agg (DR (A4 (c7 n x) p s,(A4 (c7 n x) p s).map (ax n x)))):=by
 have hW:=λk=>DW.it hv hx k hs
 have ku:=λk=>((hW k).uf hv).len
 have Od:=ku 0;have hS:=λk=>nF I J hv hx (hW k)
 have hE:=λk q q'=>fW I (AQ (c7 n x) k s) s q q' (by have:=ku k;omega) (by have:=Od;simp only[AQ]at this;omega)
 have lk:∀k,(A4 (c7 n x) k s).length=k:=λk=>FL k s
 refine Ev.x N.P3 rfl rfl ?_;(repeat' (apply AE<;>conv=>whnf))
 refine IV ?_;repeat' (first|apply AG<;>intro hc<;>try omega|apply AE|refine AD (hS 0 _) ?_)<;>conv=>whnf
 refine L8 (enc:=H5 false) s rfl rfl O' ?_;conv=>whnf
 skip
 refine L8 (enc:=AZ) (ax n x s) rfl rfl O' ?_;conv=>whnf
 skip
 refine C0 (λk=>p-k) (λ(k:Nat)=>1<=k/\k<=p) (λk=>[(8,.sl false ((AQ (c7 n x) k s).map AZ))]) (λk=>[(7,7,.bx [.row 38 0 1 0 k,.row 43 0 1 0 k]),(38,38,.rw 1 ((A4 (c7 n x) k s).map (H5 false))),(43,43,.rw 1 (((A4 (c7 n x) k s).map (ax n x)).map AZ))]) 1 O' ?_;intro k ⟨k1,k2⟩ ih;have mg:=lk k;have Nf:((A4 (c7 n x) k s).map (ax n x)).length=k:=by rw[va,mg]
 by_cases hk:k<p
 ·have o7:AQ (c7 n x) k s≠s:=λe=>by
   have:=YW hnd hk hp (by rw[e];rfl)
   omega
  have rf:=ih (k+1) O' O';have h1:=hS k false;have h2:=hE k false false;rw[Q2,O1,show(A4 (c7 n x) k s++[AQ (c7 n x) k s]).map (ax n x)=(A4 (c7 n x) k s).map (ax n x)++[ax n x (AQ (c7 n x) k s)]by rw[Ee];rfl]at rf;clear ih hS hE hW ku lk;generalize A4 (c7 n x) k s=O at*;generalize AQ (c7 n x) k s=T at*;generalize O.map (ax n x)=G at*;rw[decide_eq_false o7]at h2;repeat' (first|apply AG<;>intro hc<;>try omega|apply AE|refine AD (h1) ?_|refine AD (h2) ?_)<;>conv=>whnf
  refine C1 (enc:=H5 false) T rfl mg.symm rfl O' O' ?_;conv=>whnf
  skip
  refine C1 (enc:=AZ) (ax n x T) rfl Nf.symm rfl O' O' ?_;conv=>whnf
  skip
  rw[show(O++[T]).length=k+1 by rw[ja,mg];rfl,show(G++[ax n x T]).length=k+1 by rw[ja,Nf];rfl];exact A9 [(38,1000038),(43,1000043)] E' rf
 have ek:k=p:=O'
 have h2:=hE k false false;subst ek;rw[dt,decide_eq_true rfl]at h2;have s8:=VN (A4 (c7 n x) k s,(A4 (c7 n x) k s).map (ax n x));clear ih hS hE hW ku lk;rw[dt];simp only[DR]at s8⊢;generalize A4 (c7 n x) k s=O at*;generalize O.map (ax n x)=G at*;repeat' (first|apply AG<;>intro hc<;>try omega|apply AE|refine AD (h2) ?_)<;>conv=>whnf
 refine CR (λ_=>rfl) rfl mg.symm ?_;conv=>whnf
 refine CR (λ_=>rfl) rfl Nf.symm ?_;conv=>whnf
 exact AU rfl s8
end Go.Eng
