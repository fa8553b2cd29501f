/-
  The energy of an all-pass section is 1, plain.
-/
import Derived.Test.YtfnglkabkfmjcaaGreatB13
import Derived.Test.YtfnglkabkfmjcaaGreatB11
import Derived.Test.YtfnglkabkfmjcaaGreatB12
import Derived.Test.YtfnglkabkfmjcaaGreatB5
set_option linter.unusedSimpArgs false
set_option linter.unusedVariables false
set_option linter.unnecessarySimpa false
namespace Go.e8
set_option maxHeartbeats 8000000
theorem zD (B A:List Rat) (n:Nat):B7 (C7 B) (C7 A) n=B7 B A n:=by simp only[B7,Xr]
theorem Amj {g:Rat} {K:List (List Rat)} (hK : ∀ i j,i<1->j<1->A2 K i j=bQ (B7 [-g,1] [1,-g] 1).b i*bQ (B7 [-g,1] [1,-g] 1).b j+XD (B7 [-g,1] [1,-g] 1).a K 1 i j):OK (B7 [-g,1] [1,-g] 1) K 1 0=1:=by
 have h0:=hK 0 0 (by omega) (by omega);have a0:A2 (B7 [-g,1] [1,-g] 1).a 0 0 = - -g:=rfl;have b0:bQ (B7 [-g,1] [1,-g] 1).b 0=1:=rfl;have c0:bQ (B7 [-g,1] [1,-g] 1).c 0=1 - -g * -g:=rfl;have d0:(B7 [-g,1] [1,-g] 1).d = -g:=rfl;simp only[XD,B6,a0,b0]at h0;simp only[OK,XU,B6,c0,d0];generalize A2 K 0 0=k at *;grind
theorem Amk {g h m:Rat} (hg:g≠1) (hm:m=h*(g-1)) {K:List (List Rat)} (hs:A2 K 0 1=A2 K 1 0) (hK : ∀ i j,i<2->j<2->A2 K i j=bQ (B7 [-g,m,1] [1,m,-g] 2).b i*bQ (B7 [-g,m,1] [1,m,-g] 2).b j+XD (B7 [-g,m,1] [1,m,-g] 2).a K 2 i j):OK (B7 [-g,m,1] [1,m,-g] 2) K 2 0=1:=by
 have Ej:=hK 0 0 (by omega) (by omega);have h01:=hK 0 1 (by omega) (by omega);have h11:=hK 1 1 (by omega) (by omega);have a00:A2 (B7 [-g,m,1] [1,m,-g] 2).a 0 0 = -m:=rfl;have a01:A2 (B7 [-g,m,1] [1,m,-g] 2).a 0 1 = - -g:=rfl;have a10:A2 (B7 [-g,m,1] [1,m,-g] 2).a 1 0=1:=rfl;have a11:A2 (B7 [-g,m,1] [1,m,-g] 2).a 1 1=0:=rfl;have b0:bQ (B7 [-g,m,1] [1,m,-g] 2).b 0=1:=rfl;have b1:bQ (B7 [-g,m,1] [1,m,-g] 2).b 1=0:=rfl;have c0:bQ (B7 [-g,m,1] [1,m,-g] 2).c 0=m - -g*m:=rfl;have c1:bQ (B7 [-g,m,1] [1,m,-g] 2).c 1=1 - -g * -g:=rfl;have d0:(B7 [-g,m,1] [1,m,-g] 2).d = -g:=rfl;simp only[XD,B6,a00,a01,a10,a11,b0,b1]at Ej h01 h11;simp only[OK,XU,B6,c0,c1,d0];generalize A2 K 0 0=k00 at *;generalize A2 K 1 0=k10 at *;generalize A2 K 0 1=Pv at *;generalize A2 K 1 1=Iu at *;subst hs;have e11:Iu=k00:=by grind
 subst e11;have e1:Pv*(1-g)=h*Iu*(1-g):=by grind
 have hu:1-g≠0:=λ e=>hg (by grind)
 have e2:Pv=h*Iu:=by
  have h1:(Pv-h*Iu)*(1-g)=0:=by grind
  rcases Rat.mul_eq_zero.1 h1 with h2|h2
  ·grind
  ·exact absurd h2 hu
 subst e2;subst hm;have e3:(1-g*g)*(1-h*h)*Iu=1:=by grind
 grind
end Go.e8
namespace Go.e8
open F
attribute [local irreducible] AA AF AP AD CB AU AW BA A6 B2 AM BO B8 C8 BN A3 BX B9 AB A8 AJ pw BK BI CJ CK CU CR CI BT CT
variable {L:Lib}
set_option maxHeartbeats 16000000
set_option maxRecDepth 8000
theorem Agv (k:Int):3<=(S3 k).f/\(S3 k).f<=7/\(S3 k).f+2<=(S3 k).b:=by
 have hr:=eR (v:=k) (m:=1099511627776) (by omega);simp only[S3,Z9];generalize JX k 1099511627776/(9-6+1)=d;omega
structure SP (c:Wd) (g:Int):Prop where
 lo : -(pw c.f*3/4)<=g
 hi:g<=pw c.f*3/4
theorem tZ {f:Int} (h:3<=f/\f<=7):(f=3/\pw f=8)\/(f=4/\pw f=16)\/(f=5/\pw f=32)\/(f=6/\pw f=64)\/(f=7/\pw f=128):=by
 rcases (show f=3\/f=4\/f=5\/f=6\/f=7 by omega) with rfl|rfl|rfl|rfl|rfl
 ·exact Or.inl ⟨rfl,by unfold pw;rfl⟩
 ·exact Or.inr (Or.inl ⟨rfl,by unfold pw;rfl⟩)
 ·exact Or.inr (Or.inr (Or.inl ⟨rfl,by unfold pw;rfl⟩))
 ·exact Or.inr (Or.inr (Or.inr (Or.inl ⟨rfl,by unfold pw;rfl⟩)))
 ·exact Or.inr (Or.inr (Or.inr (Or.inr ⟨rfl,by unfold pw;rfl⟩)))
theorem iK {c:Wd} {g:Int} (hf:3<=c.f/\c.f<=7) (h:SP c g):Wh 7 (((128:Nat):Rat)*Rat.divInt g (pw c.f))/\Bt 7 (Rat.divInt g (pw c.f))/\Rat.divInt g (pw c.f)≠1:=by
 obtain ⟨h1,h2⟩:=h;have key : ∀ p:Int,(p=8\/p=16\/p=32\/p=64\/p=128) -> -(p*3/4)<=g->g<=p*3/4->Wh 7 (((128:Nat):Rat)*Rat.divInt g p)/\Bt 7 (Rat.divInt g p)/\Rat.divInt g p≠1:=by
  intro p hp h1 h2;refine ⟨?_,?_,?_⟩
  ·rcases hp with rfl|rfl|rfl|rfl|rfl
   ·exact jJ (T:=16) (by omega) (by decide) (by show _<=128;omega)
   ·exact jJ (T:=8) (by omega) (by decide) (by show _<=128;omega)
   ·exact jJ (T:=4) (by omega) (by decide) (by show _<=128;omega)
   ·exact jJ (T:=2) (by omega) (by decide) (by show _<=128;omega)
   ·exact jJ (T:=1) (by omega) (by decide) (by show _<=128;omega)
  ·obtain ⟨d,rfl⟩:=Int.eq_ofNat_of_zero_le (show 0<=p by omega)
   rw[Rat.divInt_ofNat];refine Bt.mk ?_ ?_
   ·show _<=128;omega
   ·show _<=128;omega
  ·intro e
   have um:(p:Rat)≠0:=λ e=>by
    have:=Rat.intCast_inj.1 (e.trans (show (0:Rat)=((0:Int):Rat) from rfl))
    omega
   rw[Rat.divInt_eq_div]at e;have h3:(g:Rat)=(p:Rat):=by
    have:=Rat.div_mul_cancel um (a:=(g:Rat))
    rw[e,Rat.one_mul]at this;exact this.symm
   have:=Rat.intCast_inj.1 h3
   omega
 rcases tZ hf with ⟨_,e⟩|⟨_,e⟩|⟨_,e⟩|⟨_,e⟩|⟨_,e⟩<;>rw[e]at h1 h2 ⊢ <;> exact key _ (by omega) h1 h2
theorem Vo {c:Wd} {g:Int} (hc:WV c) (hf:3<=c.f/\c.f<=7) (hb:c.f+2<=c.b) (h:SP c g):FT c g/\FT c (-g) /\ -(pw c.f)<g/\g<pw c.f:=by
 obtain ⟨l1,l2,l3,l4⟩:=AlD hc;have hp:=uA (n:=c.f) (m:=c.b-1) (by omega);obtain ⟨h1,h2⟩:=h;have yq:8<=pw c.f:=by rcases tZ hf with ⟨_,e⟩|⟨_,e⟩|⟨_,e⟩|⟨_,e⟩|⟨_,e⟩<;>omega
 refine ⟨⟨hc,by omega,by omega⟩,⟨hc,by omega,by omega⟩,by omega,by omega⟩
theorem Aj2 (N:z9 L) (I:o5 L) (c:Wd) (hc:WV c) (hf:3<=c.f/\c.f<=7):Ev L 339 [.agg (J4 c)] (.bool true):=by
 have hV:=gG c I;rw[decide_eq_true hc]at hV;refine Ev.x N.WZ rfl rfl ?_;(repeat' ((first|(apply AG<;>intro hc<;>try (exfalso;omega))|apply AE|refine AC (hV) ?_)<;>conv=>whnf))
 exact GG rfl
theorem Ajp (N:z9 L) (I:o5 L) (c:Wd) (o g h:Int) (hc:WV c) (hf:3<=c.f/\c.f<=7) (hb:c.f+2<=c.b) (ho:(o=1/\h=0)\/o=2) (hg:SP c g) (hh:SP c h):Ev L 340 [.agg [.int .i64 o,.int .i64 g,.int .i64 h],.agg (J4 c)] (.bool true):=by
 obtain ⟨g1,g2,g3,g4⟩:=Vo hc hf hb hg;obtain ⟨k1,k2,k3,k4⟩:=Vo hc hf hb hh;have F1:=lO c I g;have F2:=lO c I (-g);have F3:=lO c I h;have F4:=lO c I (-h);rw[decide_eq_true g1]at F1;rw[decide_eq_true g2]at F2;rw[decide_eq_true k1]at F3;rw[decide_eq_true k2]at F4;refine Ev.x N.WY rfl rfl ?_;rcases ho with ⟨rfl,rfl⟩|rfl
 ·(repeat' ((first|(apply AG<;>intro hc<;>try (exfalso;omega))|(apply AZ;omega)|(refine cI ?_ (λ_ _ => ?_);omega)|apply AE)<;>conv=>whnf))
  refine G7 ?_;(repeat' ((first|(apply AG<;>intro hc<;>try (exfalso;omega))|(apply AZ;omega)|(apply AY;omega)|(apply CB.neg;omega)|apply AE|refine AC (F1) ?_|refine AC (F2) ?_)<;>conv=>whnf))
  refine G7 ?_;(repeat' ((first|(apply AG<;>intro hc<;>try (exfalso;omega))|(apply AZ;omega)|(apply AY;omega)|(apply CB.neg;omega)|apply AE|refine AC (F3) ?_)<;>conv=>whnf))
  refine G7 ?_;(repeat' ((first|(apply AG<;>intro hc<;>try (exfalso;omega))|apply AE)<;>conv=>whnf))
  exact GG rfl
 ·(repeat' ((first|(apply AG<;>intro hc<;>try (exfalso;omega))|(refine cI ?_ (λ_ _ => ?_);omega)|apply AE)<;>conv=>whnf))
  refine G7 ?_;(repeat' ((first|(apply AG<;>intro hc<;>try (exfalso;omega))|(apply AZ;omega)|(apply AY;omega)|(apply CB.neg;omega)|apply AE|refine AC (F1) ?_|refine AC (F2) ?_)<;>conv=>whnf))
  refine G7 ?_;(repeat' ((first|(apply AG<;>intro hc<;>try (exfalso;omega))|(apply AZ;omega)|(apply AY;omega)|(apply CB.neg;omega)|apply AE|refine AC (F3) ?_|refine AC (F4) ?_)<;>conv=>whnf))
  refine G7 ?_;(repeat' ((first|(apply AG<;>intro hc<;>try (exfalso;omega))|apply AE)<;>conv=>whnf))
  exact GG rfl
theorem yC (p r:List Rat):A0 (.agg [.sl false (p.map eQ),.sl false (r.map eQ)]):=by
 simp only[A0,CE,and_true,true_and];exact ⟨IE _,IE _⟩
theorem Agm (p r:List Rat) (e:Int):A0 (.j9 [.agg [.sl false (p.map eQ),.sl false (r.map eQ)],.int .i64 e]):=by
 simp only[A0,CE,and_true,true_and];exact ⟨IE _,IE _⟩
theorem OX {k:Nat} {x y:Rat} (hx:Bt k x) (hy:Bt k y):Bs k [x,y]:=λ z hz=>by
 rcases List.mem_cons.1 hz with rfl|hz
 ·exact hx
 ·obtain rfl:=List.mem_singleton.1 hz
  exact hy
theorem kL {k:Nat} {x y z:Rat} (hx:Bt k x) (hy:Bt k y) (hz:Bt k z):Bs k [x,y,z]:=λ w hw=>by
 rcases List.mem_cons.1 hw with rfl|hw
 ·exact hx
 ·exact OX hy hz w hw
theorem AjX (N:z9 L) (I:o5 L) (c:Wd) (g:Int) (hc:WV c) (hf:3<=c.f/\c.f<=7) (hg:SP c g) (hi:FV g) {G:Rat} (hG:G=Rat.divInt g (pw c.f)) :
  Ev L 341 [.agg [.int .i64 1,.int .i64 g,.int .i64 0],.agg (J4 c)] (.agg [.sl false ((C7 [-G,1]).map eQ),.sl false ((C7 [1,-G]).map eQ)]):=by
 have hO:=I2 N.tob7 1 (by omega);have hV:=qW I N.toer c g hc hi;obtain ⟨_,hb,_⟩:=iK hf hg;rw[<-hG]at hV hb;have hN:=lR N.toq7 hb (by omega);have T1:=λ q=>lS N.toau q [-G,1] 7 (OX hb.je (Bt.one 7)) (by omega) (by simp)
 have T2:=λ q=>lS N.toau q [1,-G] 7 (OX (Bt.one 7) hb.je) (by omega) (by simp)
 have e1:[-G,1].map eQ=[eQ (-G),eQ 1]:=rfl;have e2:[1,-G].map eQ=[eQ 1,eQ (-G)]:=rfl;generalize C7 [-G,1]=t1 at *;generalize C7 [1,-G]=t2 at *;rw[e1]at T1;rw[e2]at T2;generalize -G=mG at *;refine Ev.x N.OP rfl rfl ?_;(repeat' ((first|(apply AG<;>intro hc<;>try (exfalso;omega))|(apply AZ;omega)|refine aG rfl rfl ?_|apply AE|refine AC (hO) ?_|refine AC (hV) ?_|refine AC (hN) ?_|refine AC (T1 _) ?_|refine AC (T2 _) ?_)<;>conv=>whnf))
 exact AX rfl (yC _ _)
theorem AjY (N:z9 L) (I:o5 L) (c:Wd) (g h:Int) (hc:WV c) (hf:3<=c.f/\c.f<=7) (hg:SP c g) (hh:SP c h) (hi:FV g) (hj:FV h) {G H m:Rat} (hG:G=Rat.divInt g (pw c.f)) (hH:H=Rat.divInt h (pw c.f)) (hm:m=H*(G-1)) :
  Ev L 341 [.agg [.int .i64 2,.int .i64 g,.int .i64 h],.agg (J4 c)] (.agg [.sl false ((C7 [-G,m,1]).map eQ),.sl false ((C7 [1,m,-G]).map eQ)]):=by
 have hO:=I2 N.tob7 1 (by omega);have hV:=qW I N.toer c g hc hi;have hW:=qW I N.toer c h hc hj;obtain ⟨_,hb,_⟩:=iK hf hg;obtain ⟨_,hd,_⟩:=iK hf hh;rw[<-hG]at hV hb;rw[<-hH]at hW hd;have hN:=lR N.toq7 hb (by omega);have hS:=gJ N.tow6 hb (Bt.one 0) (by omega) (by omega);have Ib:=hb.ia (Bt.one 0);have hM:=GT N.tob7 hd Ib (by omega) (by omega);have Ae:Bt 40 m:=by rw[hm];exact (hd.mul Ib).le (by omega)
 rw[<-hm]at hM;have T1:=λ q=>lS N.toau q [-G,m,1] 40 (kL (hb.je.le (by omega)) Ae (Bt.one _)) (by omega) (by simp)
 have T2:=λ q=>lS N.toau q [1,m,-G] 40 (kL (Bt.one _) Ae (hb.je.le (by omega))) (by omega) (by simp)
 generalize C7 [-G,m,1]=t1 at *;generalize C7 [1,m,-G]=t2 at *;generalize -G=mG at *;generalize G-1=gm at *;refine Ev.x N.OP rfl rfl ?_;(repeat' ((first|(apply AG<;>intro hc<;>try (exfalso;omega))|(apply AZ;omega)|apply AE|refine AC (hO) ?_|refine AC (hV) ?_|refine AC (hN) ?_|refine AC (hW) ?_|refine AC (hS) ?_|refine AC (hM) ?_)<;>conv=>whnf))
 refine DH (enc:=eQ) (l:=[mG,m,1]) (λ_=>rfl) rfl rfl ?_;(conv=>whnf)
 (repeat' (refine AC (T1 _) ?_<;>conv=>whnf))
 refine DH (enc:=eQ) (l:=[1,m,mG]) (λ_=>rfl) rfl rfl ?_;(conv=>whnf)
 (repeat' (refine AC (T2 _) ?_<;>conv=>whnf))
 exact AX rfl (yC _ _)
theorem Qq (N:z9 L) (I:o5 L) (c:Wd) (o g h:Int) (hc:WV c) (hf:3<=c.f/\c.f<=7) (hb:c.f+2<=c.b) (ho:(o=1/\h=0)\/o=2) (hg:SP c g) (hh:SP c h) (p r:List Rat)
  (hs:Ev L 341 [.agg [.int .i64 o,.int .i64 g,.int .i64 h],.agg (J4 c)] (.agg [.sl false (p.map eQ),.sl false (r.map eQ)])) :
  Ev L 342 [.agg [.int .i64 o,.int .i64 g,.int .i64 h],.agg (J4 c)] (.j9 [.agg [.sl false (p.map eQ),.sl false (r.map eQ)],.int .i64 0]):=by
 have h1:=Aj2 N I c hc hf;have h2:=Ajp N I c o g h hc hf hb ho hg hh;refine Ev.x N.WX rfl rfl ?_;(repeat' ((first|apply AE|refine AC (h1) ?_|refine AC (h2) ?_|refine AC (hs) ?_)<;>conv=>whnf))
 exact AX rfl (Agm _ _ _)
theorem Xp (N:kg L) (B A:List Rat) (n:Nat) (hn:n=1\/n=2) (k8:(B7 B A n).Ok n 40) (hG:W9 (B7 B A n).a (B7 B A n).b n 15) (h1 : ∀ K:List (List Rat),(∀ i j,i<n->j<n->A2 K i j=A2 K j i)->(∀ i j,i<n->j<n->A2 K i j=bQ (B7 B A n).b i*bQ (B7 B A n).b j+XD (B7 B A n).a K n i j)->OK (B7 B A n) K n 0=1) :
  (∃ e:Int,e≠0/\Ev L 332 [.agg (eS (B7 B A n))] (.j9 [.agg [.bool false,.sl false [],.sl false []],.int .i64 e])/\Ev L 334 [.agg (eS (B7 B A n))] (.j9 [.agg [.bool false,.sl false [],.sl false []],.int .i64 e]))\/Ev L 332 [.agg (eS (B7 B A n))] (.j9 [.agg (eQ 1),.int .i64 0]):=by
 obtain ⟨v,e1,e2,hv⟩:=Ut N.toz8 (B7 B A n).a (B7 B A n).b n hG (by omega) (by omega);rcases hv with ⟨_,e,he,rfl⟩|⟨_,_,X,hX,zq,rfl⟩
 ·exact Or.inl ⟨e,he,AiG N.toq5 _ n k8 (by omega) (by omega) e he e1,AjK N.toq5 _ n k8 (by omega) (by omega) e he e2⟩
 ·have hE:=Qs N.toq5 _ n k8 (by omega) (by omega) (kM X n) (gX X n) (sO zq n) (by omega) e1
  rw[h1 (kM X n) (λ i j hi hj=>Alq X hi hj) (hX.eq (by omega))]at hE;exact Or.inr hE
theorem Zs {M k:Nat} {l:List Rat} (h : ∀ x∈l,Wh k ((M:Rat)*x)) (i:Nat):Wh k ((M:Rat)*bQ l i):=by
 rw[bQ,List.getD_eq_getElem?_getD];cases e:l[i]? with
 | none=>rw[show ((none:Option Rat).getD 0)=0 from rfl,Rat.mul_zero];exact Wh.zero _
 | some x=>exact h x (zM e)
theorem AnG (x:Rat):C7 [x,1]=[x,1]:=by
 show List.take (if (1:Rat)=0 then _ else 2) [x,1]=_;rw[if_neg (by decide)];rfl
theorem AnH (x y:Rat):C7 [x,y,1]=[x,y,1]:=by
 show List.take (if (1:Rat)=0 then _ else 3) [x,y,1]=_;rw[if_neg (by decide)];rfl
theorem Xt {l:List Rat} (h:l.getD 0 0=1):(C7 l)[0]? = some 1:=by
 have h1:=Xr l 0;rw[h,List.getD_eq_getElem?_getD]at h1;cases e:(C7 l)[0]? with
 | none=>rw[e]at h1;exact absurd h1 (by decide)
 | some x=>rw[e]at h1;exact congrArg some h1
theorem eJ (l:List Rat):(C7 l).length<=l.length:=by rw[jI];exact aO _ _
theorem nZ {k:Nat} {l:List Rat} (h:Bs k l):Bs k (C7 l):=λ x hx=>h x (List.mem_of_mem_take hx)
theorem Ai5 (N:kg L) (I:o5 L) (order format:Int) (l:List Int) (q:Bool) (ho:FV order) (hf:FV format) (hl : ∀ v∈l,FV v) :
  Ev L 343 [.int .i64 order,.int .i64 format,.sl q (l.map O4)] (.bool true):=by
 have W:v3 L:=N.toz9.tov3;have A:q7 L:=N.toae.toew.toq7;have Dk:=Ai2 N.togd;obtain ⟨c1,c2,c3⟩:=Agw format;obtain ⟨f1,f2,f3⟩:=Agv format;have Jb:=Aj5 W format hf;have hU:=Aj6 W (S3 format) c1;generalize S3 format=c at *;have hpw:8<=pw c.f/\pw c.f<=128:=by rcases tZ ⟨f1,f2⟩ with ⟨_,e⟩|⟨_,e⟩|⟨_,e⟩|⟨_,e⟩|⟨_,e⟩<;>omega
 have hB:=λ q=>Aj4 W (pw c.f*3/4) (by omega) l q 2 (by omega)
 have hBe:kI (pw c.f*3/4) l 2=[Z5 (pw c.f*3/4) (XF l 0),Z5 (pw c.f*3/4) (XF l 1)]:=rfl;have hP : ∀ v,SP c (Z5 (pw c.f*3/4) v):=λ v=>by
  have:=eR (v:=IntKind.i64.wrap (v+pw c.f*3/4)) (m:=2*(pw c.f*3/4)+1) (by omega)
  exact ⟨by unfold Z5;omega,by unfold Z5;omega⟩
 have um:=hP (XF l 0);have yq:=hP (XF l 1);have hpz:SP c 0:=⟨by omega,by omega⟩;rw[hBe]at hB;generalize Z5 (pw c.f*3/4) (XF l 0)=g at *;generalize Z5 (pw c.f*3/4) (XF l 1)=h at *;clear hBe hP;have ig:FV g:=by unfold FV;have:=um.lo;have:=um.hi;omega
 have ih:FV h:=by unfold FV;have:=yq.lo;have:=yq.hi;omega
 obtain ⟨w1,w2⟩:=eR (v:=order) (m:=2) (by omega);have Jk:=rL W order 2 ho (by omega);generalize JX order 2=z at *;have hO:=dD A.toc4 1 (by omega);have yh:=lM A.toc4 (Bt.one 0) (Bt.one 0) (by omega) (by omega);rw[uZ.2 rfl]at yh;have AzA:[g,h][((0:Int)).toNat]? = some g:=rfl;have AzE:[g,h][((1:Int)).toNat]? = some h:=rfl;have xd:[g,h].length=2:=rfl;have hBm:[g,h].map O4=[O4 g,O4 h]:=rfl;obtain ⟨Fv,oa,Kx⟩:=iK ⟨f1,f2⟩ um;obtain ⟨hHw,hHb,_⟩:=iK ⟨f1,f2⟩ yq;obtain ⟨G,hG⟩ : ∃ G,G=Rat.divInt g (pw c.f):=⟨_,rfl⟩;obtain ⟨H,hH⟩ : ∃ H,H=Rat.divInt h (pw c.f):=⟨_,rfl⟩;have tz:((16384:Nat):Rat)=((128:Nat):Rat)*((128:Nat):Rat):=by decide +kernel
 have nx:Wh 7 (((128:Nat):Rat)):=⟨128,rfl,by decide⟩;rcases (show z=0\/z=1 by omega) with rfl|rfl
 ·have hS:=AjX N.toz9 I c g c1 ⟨f1,f2⟩ um ig hG
  have Ft:=Qq N.toz9 I c 1 g 0 c1 ⟨f1,f2⟩ f3 (Or.inl ⟨rfl,rfl⟩) um hpz _ _ hS;rw[<-hG]at Fv oa Kx;have bB:Bs 40 [-G,1]:=OX (oa.je.le (by omega)) (Bt.one _);have bA:Bs 40 [1,-G]:=OX (Bt.one _) (oa.je.le (by omega));have hC:=qV A false false (C7 [-G,1]) (C7 [1,-G]) 1 40 (nY _) (nY _) (nZ bB) (nZ bA) (by have:=eJ [-G,1];simp at this;omega) (by have:=eJ [1,-G];simp at this;omega) (Xt rfl) (by
   rw[AnG];have:=eJ [1,-G]
   simp at this ⊢;omega) (by omega)
  rw[zD]at hC;have k8:(B7 [-G,1] [1,-G] 1).Ok 1 40:=⟨rfl,λ r hr=>by obtain rfl:=List.mem_singleton.1 hr;rfl,rfl,rfl,λ r hr x hx=>by
    obtain rfl:=List.mem_singleton.1 hr;obtain rfl:=List.mem_singleton.1 hx;exact oa.je.je.le (by omega),λ x hx=>by
    obtain rfl:=List.mem_singleton.1 hx;exact Bt.one _,λ x hx=>by
    obtain rfl:=List.mem_singleton.1 hx;exact ((Bt.one 0).ia (oa.je.mul oa.je)).le (by omega),oa.je.le (by omega)⟩
  have Ky:W9 (B7 [-G,1] [1,-G] 1).a (B7 [-G,1] [1,-G] 1).b 1 15:=by
   show W9 [[- -G]] [1] 1 15;refine rX (M:=16384) (m:=16) (l:=30) (by omega) ⟨rfl,λ r hr=>by obtain rfl:=List.mem_singleton.1 hr;rfl⟩ rfl (λ r hr x hx => ?_) (λ x hx => ?_) (by omega) (by omega) (by omega) (by omega) (vZ λ r hr x hx => ?_) (Zs λ x hx => ?_)
   ·obtain rfl:=List.mem_singleton.1 hr
    obtain rfl:=List.mem_singleton.1 hx;exact oa.je.je.le (by omega)
   ·obtain rfl:=List.mem_singleton.1 hx
    exact Bt.one _
   ·obtain rfl:=List.mem_singleton.1 hr
    obtain rfl:=List.mem_singleton.1 hx;rw[tz,Rat.mul_assoc,Rat.neg_neg];exact (nx.mul Fv).le (by omega)
   ·obtain rfl:=List.mem_singleton.1 hx
    rw[tz,Rat.mul_one];exact (nx.mul nx).le (by omega)
  have hE:=Xp N [-G,1] [1,-G] 1 (Or.inl rfl) k8 Ky λ K _ hK=>Amj hK
  generalize C7 [-G,1]=t1 at *;generalize C7 [1,-G]=t2 at *;generalize B7 [-G,1] [1,-G] 1=S at *;refine Ev.x N.LC rfl rfl ?_;rcases hE with ⟨e,he,hE,hR⟩|hE
  ·(repeat' ((first|(apply AG<;>intro hc<;>try (exfalso;omega))|(apply AZ;omega)|(apply AY;omega)|(apply FN;omega)|(refine IO ?_ ?_ (λ_ => ?_) (λ_ _ => ?_);omega;omega;all_goals try (exfalso;omega))|(refine A9 (by assumption) ?_ rfl ?_;omega)|apply AE|refine AC (Jb) ?_|refine AC (hU) ?_|refine AC (hB _) ?_|refine AC (Jk) ?_|refine AC (Ft) ?_|refine AC (hC) ?_|refine AC (hE) ?_|refine AC (hR) ?_|refine AC (Dk) ?_)<;>conv=>whnf))
   exact GG rfl
  ·(repeat' ((first|(apply AG<;>intro hc<;>try (exfalso;omega))|(apply AZ;omega)|(apply AY;omega)|(apply FN;omega)|(refine IO ?_ ?_ (λ_ => ?_) (λ_ _ => ?_);omega;omega;all_goals try (exfalso;omega))|(refine A9 (by assumption) ?_ rfl ?_;omega)|apply AE|refine AC (Jb) ?_|refine AC (hU) ?_|refine AC (hB _) ?_|refine AC (Jk) ?_|refine AC (Ft) ?_|refine AC (hC) ?_|refine AC (hE) ?_|refine AC (Dk) ?_|refine AC (hO) ?_|refine AC (yh) ?_)<;>conv=>whnf))
   exact GG rfl
 ·obtain ⟨m,hm⟩ : ∃ m,m=H*(G-1):=⟨_,rfl⟩
  have hS:=AjY N.toz9 I c g h c1 ⟨f1,f2⟩ um yq ig ih hG hH hm;have Ft:=Qq N.toz9 I c 2 g h c1 ⟨f1,f2⟩ f3 (Or.inr rfl) um yq _ _ hS;rw[<-hG]at Fv oa Kx;rw[<-hH]at hHw hHb;have Ae:Bt 15 m:=by rw[hm];exact (hHb.mul (oa.ia (Bt.one 0))).le (by omega)
  have bB:Bs 15 [-G,m,1]:=kL (oa.je.le (by omega)) Ae (Bt.one _);have bA:Bs 15 [1,m,-G]:=kL (Bt.one _) Ae (oa.je.le (by omega));have hC:=qV A false false (C7 [-G,m,1]) (C7 [1,m,-G]) 2 15 (nY _) (nY _) (nZ bB) (nZ bA) (by have:=eJ [-G,m,1];simp at this;omega) (by have:=eJ [1,m,-G];simp at this;omega) (Xt rfl) (by
   rw[AnH];have:=eJ [1,m,-G]
   simp at this ⊢;omega) (by omega)
  rw[zD]at hC;have k8:(B7 [-G,m,1] [1,m,-G] 2).Ok 2 40:=⟨rfl,λ r hr=>by
    rcases List.mem_cons.1 hr with rfl|hr
    ·rfl
    ·obtain rfl:=List.mem_singleton.1 hr
     rfl,rfl,rfl,λ r hr=>by
    rcases List.mem_cons.1 hr with rfl|hr
    ·exact OX (Ae.je.le (by omega)) (oa.je.je.le (by omega))
    ·obtain rfl:=List.mem_singleton.1 hr
     exact OX (Bt.one _) (Bt.zero _),OX (Bt.one _) (Bt.zero _),OX ((Ae.ia (oa.je.mul Ae)).le (by omega)) (((Bt.one 0).ia (oa.je.mul oa.je)).le (by omega)),oa.je.le (by omega)⟩
  have Ky:W9 (B7 [-G,m,1] [1,m,-G] 2).a (B7 [-G,m,1] [1,m,-G] 2).b 2 15:=by
   refine rX (M:=16384) (m:=16) (l:=30) (by omega) ⟨k8.la,k8.lr⟩ k8.lb (λ r hr => ?_) (OX (Bt.one _) (Bt.zero _)) (by omega) (by omega) (by omega) (by omega) (vZ λ r hr x hx => ?_) (Zs λ x hx => ?_)
   ·rcases List.mem_cons.1 hr with rfl|hr
    ·exact OX (Ae.je) (oa.je.je.le (by omega))
    ·obtain rfl:=List.mem_singleton.1 hr
     exact OX (Bt.one _) (Bt.zero _)
   ·have w1:Wh 16 (((16384:Nat):Rat)*1):=by rw[tz,Rat.mul_one];exact (nx.mul nx).le (by omega)
    have w0:Wh 16 (((16384:Nat):Rat)*0):=by rw[Rat.mul_zero];exact Wh.zero _
    have wg:Wh 16 (((16384:Nat):Rat) * - -G):=by rw[tz,Rat.mul_assoc,Rat.neg_neg];exact (nx.mul Fv).le (by omega)
    have wm:Wh 16 (((16384:Nat):Rat) * -m):=by
     rw[tz,hm,show ((128:Nat):Rat)*((128:Nat):Rat) * -(H*(G-1)) = -(((128:Nat):Rat)*H*(((128:Nat):Rat)*G-((128:Nat):Rat))) by grind];exact ((hHw.mul (Fv.sub nx)).neg).le (by omega)
    rcases List.mem_cons.1 hr with rfl|hr
    ·rcases List.mem_cons.1 hx with rfl|hx
     ·exact wm
     ·obtain rfl:=List.mem_singleton.1 hx
      exact wg
    ·obtain rfl:=List.mem_singleton.1 hr
     rcases List.mem_cons.1 hx with rfl|hx
     ·exact w1
     ·obtain rfl:=List.mem_singleton.1 hx
      exact w0
   ·rcases List.mem_cons.1 hx with rfl|hx
    ·show Wh 30 (((16384:Nat):Rat)*1)
     rw[tz,Rat.mul_one];exact (nx.mul nx).le (by omega)
    ·obtain rfl:=List.mem_singleton.1 hx
     show Wh 30 (((16384:Nat):Rat)*0);rw[Rat.mul_zero];exact Wh.zero _
  have hE:=Xp N [-G,m,1] [1,m,-G] 2 (Or.inr rfl) k8 Ky λ K hs hK=>Amk Kx hm (hs 0 1 (by omega) (by omega)) hK
  generalize C7 [-G,m,1]=t1 at *;generalize C7 [1,m,-G]=t2 at *;generalize B7 [-G,m,1] [1,m,-G] 2=S at *;refine Ev.x N.LC rfl rfl ?_;rcases hE with ⟨e,he,hE,hR⟩|hE
  ·(repeat' ((first|(apply AG<;>intro hc<;>try (exfalso;omega))|(apply AY;omega)|(apply FN;omega)|(refine IO ?_ ?_ (λ_ => ?_) (λ_ _ => ?_);omega;omega;all_goals try (exfalso;omega))|(refine A9 (by assumption) ?_ rfl ?_;omega)|apply AE|refine AC (Jb) ?_|refine AC (hU) ?_|refine AC (hB _) ?_|refine AC (Jk) ?_|refine AC (Ft) ?_|refine AC (hC) ?_|refine AC (hE) ?_|refine AC (hR) ?_|refine AC (Dk) ?_)<;>conv=>whnf))
   exact GG rfl
  ·(repeat' ((first|(apply AG<;>intro hc<;>try (exfalso;omega))|(apply AY;omega)|(apply FN;omega)|(refine IO ?_ ?_ (λ_ => ?_) (λ_ _ => ?_);omega;omega;all_goals try (exfalso;omega))|(refine A9 (by assumption) ?_ rfl ?_;omega)|apply AE|refine AC (Jb) ?_|refine AC (hU) ?_|refine AC (hB _) ?_|refine AC (Jk) ?_|refine AC (Ft) ?_|refine AC (hC) ?_|refine AC (hE) ?_|refine AC (Dk) ?_|refine AC (hO) ?_|refine AC (yh) ?_)<;>conv=>whnf))
   exact GG rfl
end Go.e8
