/-
  Natural numbers (layer 1): shifts by less than a digit, leading zeros.
-/
import Derived.Test.YthgjfcjecnmflaaGreatB7
import Derived.Test.YthgjfcjecnmflaaGreatB2
import Derived.Test.YthgjfcjecnmflaaGreatB1
set_option linter.unusedSimpArgs false
set_option linter.unusedVariables false
set_option linter.unnecessarySimpa false
namespace Go.e6
open F
section
variable {K:AV->Prop} {a b s:Nat} {k':IntKind}
theorem sL (hs:s<=32) (hk:K (.int .u32 ((WP a s:Nat):Int))):A5 .shl .u32 (a:Int) k' (s:Int) K:=by
 refine kQ (show s<=IntKind.u32.bits from hs) ?_;rw[wrap_u32,<-qM];exact hk
theorem V7 (hs:s<=64) (h:a*2^s<=18446744073709551615) (hk:K (.int .u64 ((a*2^s:Nat):Int))):A5 .shl .u64 (a:Int) k' (s:Int) K:=by
 refine kQ (show s<=IntKind.u64.bits from hs) ?_;rw[IntWalk.u64_in _ (by omega)];exact hk
theorem kR (n:Nat) (hx:a%2^n=0) (hy:b<2^n) (h:a+b<=4294967295) (hk:K (.int .u32 ((a+b:Nat):Int))):A5 .or .u32 (a:Int) .u32 (b:Int) K :=
 kO n hx hy (show a+b<4294967296 by omega) (IntWalk.u32_in _ (by omega)) hk
theorem Yz (n:Nat) (hx:b%2^n=0) (hy:a<2^n) (h:a+b<=4294967295) (hk:K (.int .u32 ((a+b:Nat):Int))):A5 .or .u32 (a:Int) .u32 (b:Int) K:=by
 have e:FH .or .u32 (a:Int) .u32 (b:Int)=FH .or .u32 (b:Int) .u32 (a:Int):=by
  simp only[FH,if_true,BitVec.or_comm]
 rw[Nat.add_comm]at hk h;obtain ⟨v,h1,h2⟩:=kR (K:=K) n hx hy h hk;exact ⟨v,by rw[e];exact h1,h2⟩
theorem Vy (hs:s<=32) (hk:K (.int .u32 ((a/2^s:Nat):Int))):A5 .shr .u32 (a:Int) k' (s:Int) K:=V3 (show s<=IntKind.u32.bits from hs) hk
end
attribute [local irreducible] AH A8 BT A5 EW BJ CS CR EU DK EE II C8 B5 DB FG AP CG BF pw HE FL HO HG HN G2 G5 DG FF
set_option maxHeartbeats 1000000
variable {L:Lib}
def kL (a:List Nat) (s:Nat) (o:List Nat):Prop:=BZ o/\(a.length<=o.length/\o.length<=a.length+1)/\(val a*2^s<4294967296^o.length->val o=val a*2^s)
theorem Ahq {a o:List Nat} {s lo:Nat} (hD:BZ o) (hl:o.length=a.length) (h:val (o.take a.length)+4294967296^a.length*lo=val (a.take a.length)*2^s):kL a s o:=by
 refine ⟨hD,by omega,λ l8 => ?_⟩;rw[E9 (by omega),E9 (Nat.le_refl _)]at h;rw[hl]at l8;have:lo=0:=by
  rcases Nat.eq_zero_or_pos lo with h0|h0
  ·exact h0
  ·have:4294967296^a.length*1<=4294967296^a.length*lo:=Nat.mul_le_mul_left _ h0
   omega
 subst this;omega
theorem zJ {a o:List Nat} {s lo:Nat} (hD:BZ o) (nu:lo<4294967296) (hl:o.length=a.length+1) (h:val (o.take a.length)+4294967296^a.length*lo=val (a.take a.length)*2^s):kL a s (o.set a.length lo):=by
 refine ⟨hD.set _ nu,by simp;omega,λ_ => ?_⟩;have h1:=JQ (v:=lo) (show a.length<o.length by omega);rw[E9 (by simp;omega),h,E9 (Nat.le_refl _)]at h1;exact h1
theorem AfC (N:c6 L) (a:List Nat) (q:Bool) (s n:Nat) (hA:BZ a) (hs:s<=31) (hn:a.length<=n/\n<=a.length+1) (la:a.length<=1099511627776) : ∃ r,Ev L 71 [.sl q (a.map BG),.int .u64 (s:Int),.int .i64 (n:Int)] r /\ ∃ o,kL a s o/\o.length=n/\r = .sl false (o.map BG):=by
 refine Ev.xE N.PT rfl rfl ?_;(repeat' (apply A7<;>conv=>whnf))
 refine NQ (enc:=BG) 0 n rfl rfl (by omega) ?_;(conv=>whnf)
 (repeat' (apply BR<;>conv=>whnf))
 refine J1 (λ i _ _=>a.length-i) (λ(i:Nat) (o:List Nat) (lo:Nat)=>i<=a.length/\o.length=n/\BZ o/\lo<2^s/\val (o.take i)+4294967296^i*lo=val (a.take i)*2^s) (λ i o lo=>[(8,.int .u32 (lo:Int)),(15,.int .i64 i)]) (λ i o lo=>[(71012,71012,.rw 1 (o.map BG))]) 0 (List.replicate n 0) 0 ⟨by omega,by simp,PG _,Nat.two_pow_pos s,by simp [val]⟩ ?_;intro i o lo ⟨p1,p2,p3,p4,p5⟩ ih;have si:=dT (s:=s) (by omega);by_cases hi:i<a.length
 ·obtain ⟨d,hd⟩ : ∃ d,a[i]? = some d:=⟨_,zE hi⟩
  have du:=hA.at hd;obtain ⟨f1,f2,f3,f4⟩:=Y5 (s:=s) du (by omega);(repeat' ((first|(apply BB<;>intro hc<;>try omega)|(refine CT (by assumption) ?_ rfl ?_;omega)|apply A7)<;>conv=>whnf))
  refine sL (by omega) ?_;(conv=>whnf)
  skip
  refine kR s f1 p4 (by omega) ?_;(conv=>whnf)
  (repeat' ((first|(apply B7;omega)|fail)<;>conv=>whnf))
  refine H9 (by omega) ?_;(conv=>whnf)
  (repeat' ((first|(apply DL;omega)|fail)<;>conv=>whnf))
  refine V7 (by omega) f4 ?_;(conv=>whnf)
  (repeat' ((first|(apply BS;omega)|apply IK|(apply GP;omega))<;>conv=>whnf))
  rw[<-Y4];refine C5 [] (by (conv=>whnf);exact ⟨rfl,rfl,rfl⟩) (ih (i+1) _ _ (by omega) ⟨by omega,by simpa using p2,p3.set _ (by omega),f2,?_⟩);rw[JQ (by omega),GD hd,Nat.pow_succ];exact zK p5
 ·obtain rfl:i=a.length:=by omega
  clear ih;(repeat' ((first|(apply BB<;>intro hc<;>try omega)|(apply B7;omega)|apply BR|apply A7)<;>conv=>whnf))
  ·refine H9 (by omega) ?_
   (conv=>whnf)
   skip
   refine ⟨_,?_,_,zJ p3 (by omega) (by omega) p5,by simpa using p2,rfl⟩;(conv=>whnf)
   refine GR (enc:=BG) (λ_=>rfl) rfl (by simp [p2]) ?_;(conv=>whnf)
   exact BU rfl (by simp only[B4,true_and];exact EI _)
  ·refine ⟨_,?_,_,Ahq p3 (by omega) p5,p2,rfl⟩
   (conv=>whnf)
   refine GR (enc:=BG) (λ_=>rfl) rfl (by simp [p2]) ?_;(conv=>whnf)
   exact BU rfl (by simp only[B4,true_and];exact EI _)
theorem AfD (N:c6 L) (a:List Nat) (q:Bool) (s:Nat) (hA:BZ a) (hs:s<=31) (la:a.length<=1099511627776) : ∃ r,Ev L 72 [.sl q (a.map BG),.int .u64 (s:Int)] r /\ ∃ o,BZ o/\o.length=a.length/\val o=val a/2^s/\r = .sl false (o.map BG):=by
 refine Ev.xE N.R9 rfl rfl ?_;(repeat' ((first|apply BR|apply A7)<;>conv=>whnf))
 refine NQ (enc:=BG) 0 a.length rfl rfl (by omega) ?_;(conv=>whnf)
 (repeat' ((first|(apply DC;omega)|apply BR)<;>conv=>whnf))
 refine J1 (λ n _ _=>n) (λ(n:Nat) (o:List Nat) (hi:Nat)=>n<=a.length/\o.length=a.length/\BZ o/\hi=val (a.drop n)%2^s*2^(32-s)/\val (o.drop n)=val (a.drop n)/2^s) (λ n o hi=>[(6,.int .u32 (hi:Int)),(7,.int .i64 ((n:Int)-1))]) (λ n o hi=>[(10,10,.rw 1 (o.map BG))]) a.length (List.replicate a.length 0) 0 ⟨by omega,by simp,PG _,by rw[List.drop_of_length_le (Nat.le_refl _)];simp [val],by rw[List.drop_of_length_le (Nat.le_refl _),List.drop_of_length_le (by simp)];simp [val]⟩ ?_;intro n o hi ⟨p1,p2,p3,p4,p5⟩ ih;rcases n with _|n
 ·(repeat' ((first|(apply BB<;>intro hc<;>try omega)|apply A7)<;>conv=>whnf))
  rw[List.drop_zero,List.drop_zero]at p5;refine ⟨_,?_,_,p3,p2,p5,rfl⟩;(conv=>whnf)
  refine GR (enc:=BG) (λ_=>rfl) rfl p2.symm ?_;(conv=>whnf)
  exact BU rfl (by simp only[B4,true_and];exact EI _)
 ·have e1:((n+1:Nat):Int)-1=n:=by omega
  rw[e1];obtain ⟨d,hd⟩ : ∃ d,a[n]? = some d:=⟨_,zE (by omega)⟩;have du:=hA.at hd;obtain ⟨f1,f2,f3⟩:=zQ (V:=val (a.drop (n+1))) du (show s<=32 by omega);obtain ⟨g1,g2,g3,g4⟩:=Y5 du (show 32-s<=32 by omega);rw[<-p4]at f2 f3;(repeat' ((first|(apply BB<;>intro hc<;>try omega)|(refine CT (by assumption) ?_ rfl ?_;omega)|apply A7)<;>conv=>whnf))
  refine Vy (by omega) ?_;(conv=>whnf)
  skip
  refine Yz (32-s) f2 f1 (by omega) ?_;(conv=>whnf)
  (repeat' ((first|(apply B7;omega)|fail)<;>conv=>whnf))
  refine H9 (by omega) ?_;(conv=>whnf)
  (repeat' ((first|(apply fH;omega)|(apply DL;omega)|(refine CT (by assumption) ?_ rfl ?_;omega))<;>conv=>whnf))
  rw[show GZ 32 s=32-s by rw[ZD];omega];refine V7 (by omega) g4 ?_;(conv=>whnf)
  (repeat' ((first|(apply DC;omega)|apply JL)<;>conv=>whnf))
  rw[Ahx (by omega)];refine C5 [] (by (conv=>whnf);exact ⟨rfl,rfl,rfl⟩) (ih n _ _ (by omega) ⟨by omega,by simpa using p2,p3.set _ (by omega),?_,?_⟩)
  ·rw[NH hd,zU (by omega)]
  ·rw[NH (l:=o.set n (d/2^s+hi)) (d:=d/2^s+hi) (by rw[List.getElem?_set_self (by omega)]),List.drop_set_of_lt (by omega),p5,NH hd,pC (by omega),<-p4]
theorem iE : ∀ n<256,(List.replicate 1 0++List.replicate 1 1++List.replicate 2 2++List.replicate 4 3++List.replicate 8 4++List.replicate 16 5++List.replicate 32 6++List.replicate 64 7++List.replicate 128 8)[n]? = some (o5 n):=by decide +kernel
theorem Afe (N:c6 L) (x:Nat) (hx:x<4294967296):Ev L 63 [.int .u32 (x:Int)] (.int .i64 (o5 x:Int)):=by
 have rz : ∀ y<256,o5 y<=8:=λ y h=>fS (k:=8) h
 refine Ev.x N.RR rfl rfl ?_;(repeat' ((first|(apply BB<;>intro hc<;>try omega)|(apply BS;omega)|apply Yw|apply Yy|(apply Yp;omega)|apply A7)<;>conv=>whnf))
 ·have Ja:=rz (x/65536/256) (by omega)
  refine fR (iE _ (by omega)) ?_;(conv=>whnf)
  (repeat' ((first|(apply BS;omega)|(apply PN;omega))<;>conv=>whnf))
  have h1:o5 (x/65536)+16=o5 x:=bY 16 (x:=x) (by omega);have h2:o5 (x/65536/256)+8=o5 (x/65536):=bY 8 (x:=x/65536) (by omega);refine DY ?_;rw[<-h1,<-h2];omega
 ·have Ja:=rz (x/65536) (by omega)
  refine fR (iE _ (by omega)) ?_;(conv=>whnf)
  (repeat' ((first|(apply BS;omega)|(apply PN;omega))<;>conv=>whnf))
  have h1:o5 (x/65536)+16=o5 x:=bY 16 (x:=x) (by omega);refine DY ?_;rw[<-h1];omega
 ·have Ja:=rz (x/256) (by omega)
  refine fR (iE _ (by omega)) ?_;(conv=>whnf)
  (repeat' ((first|(apply BS;omega)|(apply PN;omega))<;>conv=>whnf))
  have h2:o5 (x/256)+8=o5 x:=bY 8 (x:=x) (by omega);refine DY ?_;rw[<-h2];omega
 ·have Ja:=rz (x) (by omega)
  refine fR (iE _ (by omega)) ?_;(conv=>whnf)
  (repeat' ((first|(apply BS;omega)|(apply PN;omega))<;>conv=>whnf))
  refine DY ?_;omega
theorem vX (N:c6 L) (x:Nat) (hx:x<4294967296):Ev L 64 [.int .u32 (x:Int)] (.int .i64 ((32-o5 x:Nat):Int)):=by
 have h:=fS (k:=32) hx;refine Ev.x N.RQ rfl rfl ?_;(repeat' ((first|(apply DC;omega)|apply A7|refine AY (Afe N x hx) ?_)<;>conv=>whnf))
 refine DY ?_;omega
end Go.e6
namespace Go.e6
open F
theorem Ae7 {L:Lib} {f:Nat} {fn:AFn} {vs:List AV} {own n0:BC} {r:AV} (hL:L f=some fn) (Fu:OT fn.body=true) (h:J2 L f vs own r n0):n0=own:=by
 obtain ⟨n,h⟩:=h;cases n with
 | zero=>simp [FV]at h
 | succ n =>
  rw[cR]at h;simp only[hL]at h;split at h
  ·split at h
   ·rename_i st m9
    split at h
    ·simp only[Option.some.injEq,Prod.mk.injEq]at h
     rw[<-h.2];exact O5 n (by simp [WF,Fu]) m9
    ·cases h
   ·cases h
  ·cases h
attribute [local irreducible] AH A8 BT A5 EW BJ CS CR EU DK EE II C8 B5 DB FG AP CG BF pw HE FL HO HG HN G2 G5 DG FF
set_option maxHeartbeats 1000000
variable {L:Lib}
theorem AdP (N:c6 L) (l:List Nat) (s:Nat) (hD:BZ l) (hl:l.length<=1099511627776):CG L 65 [.row 5 0 1 0 l.length] [(0,.row 5 0 1 0 l.length)] [(5,s,.rw 1 (l.map BG))] (λ r _=>r = .row 5 0 1 0 (dg (val l)).length):=by
 have hlen : ∀ n,n<=l.length->l.take n=dg (val l)->n=(dg (val l)).length:=λ n h1 h2=>by
  rw[<-h2,List.length_take];omega
 refine OO 1000 N.I4 rfl rfl ?_;(repeat' (apply A7<;>conv=>whnf))
 refine HC (λ n=>n) (λ(n:Nat)=>n<=l.length /\ ∀ i,n<=i->i<l.length->l[i]? = some 0) (λ n=>[(3,.int .i64 n)]) (λ_=>[]) l.length ⟨Nat.le_refl _,λ i h1 h2=>by omega⟩ ?_;intro n ⟨p1,p2⟩ ih;rcases n with _|n
 ·(repeat' ((first|(apply BB<;>intro hc<;>try omega)|apply A7)<;>conv=>whnf))
  refine NN 0 (by omega) (by omega) ?_;(conv=>whnf)
  refine ⟨rfl,_,rfl,?_⟩;rw[<-hlen 0 p1 (JX hD p1 p2 (Or.inl rfl))];rfl
 ·have e1:((n+1:Nat):Int)-1=n:=by omega
  (repeat' ((first|(apply BB<;>intro hc<;>try omega)|(apply B7;omega)|(apply DC;omega)|(refine X1 (by assumption) ?_ (λ v hv hb => ?_);omega)|apply A7)<;>conv=>whnf))
  ·rw[e1]
   exact D0 [] (ih n (by omega) ⟨by omega,λ i h1 h2=>by
    by_cases h:i=n
    ·subst h
     rw[e1,Int.toNat_natCast]at hv;rw[hv];congr 1;omega
    ·exact p2 i (by omega) h2⟩)
  ·refine NN (n+1) (by omega) (by omega) ?_
   (conv=>whnf)
   refine ⟨rfl,_,rfl,?_⟩;rw[e1,Int.toNat_natCast]at hv;rw[<-hlen (n+1) p1 (JX hD p1 p2 (Or.inr ⟨_,hv,by omega⟩))];rfl
theorem AdO (N:c6 L) (l:List Nat) (s t:Nat) (own:BC) (hD:BZ l) (hl:l.length<=1099511627776) (hb:(own s).e7 t=some ⟨1,l.map BG⟩) (ht:t<(own s).j5) (nu:HU s=true):J2 L 65 [.row s t 1 0 l.length] own (.row s t 1 0 (dg (val l)).length) own:=by
 have hs:QH (λ_ _=>(s,t)) own [(5,s,.rw 1 (l.map BG))]:=by
  have key : ∀ k u c,c8 [(5,s,B6.rw 1 (l.map BG))] k u=some c->k=5/\u=0/\c = .rw 1 (l.map BG):=λ k u c e=>by
   simp only[c8,c9]at e;cases hk:Nat.beq k 5<;>simp only[hk,cond_true,cond_false]at e
   ·cases e
   ·cases u with
    | zero=>simp only[Option.some.injEq]at e;exact ⟨Nat.eq_of_beq_eq_true hk,rfl,e.symm⟩
    | succ u=>cases e
  refine ⟨λ k s' c e => ?_,λ k u c e => ?_,λ k u c e=>ht,λ k u k' u' c c' e e' _ => ?_,λ_ _ _ _ _=>nu⟩
  ·simp only[c9]at e
   cases hk:Nat.beq k 5<;>simp only[hk,cond_true,cond_false]at e
   ·cases e
   ·simp only[Option.some.injEq,Prod.mk.injEq]at e;exact e.1
  ·obtain ⟨_,_,rfl⟩:=key k u c e
   exact hb
  ·obtain ⟨rfl,rfl,_⟩:=key k u c e
   obtain ⟨rfl,rfl,_⟩:=key k' u' c' e';exact ⟨rfl,rfl⟩
 have hw:=AdP N l s hD hl;unfold CG at hw;obtain ⟨r,n0,σ',M',h1,h2,h3,rfl⟩:=hw _ own hs;have ho:=Ae7 N.I4 (by decide +kernel) h1;subst ho;have h4:AV.row (σ' 5 0).1 (σ' 5 0).2 1 0 l.length=AV.row s t 1 0 l.length:=h3 0;simp only[AV.row.injEq]at h4;have h5:J2 L 65 [.row s t 1 0 l.length] n0 (.row (σ' 5 0).1 (σ' 5 0).2 1 0 (dg (val l)).length) n0:=h1;rw[h4.1,h4.2.1]at h5;exact h5
theorem eT (N:c6 L) {l:List Nat} {tm:Tm} {M:Mem} {K:AV->Mem->Prop} {key s len:Nat} (hD:BZ l) (hl:l.length<=1099511627776) (hm:c9 M key=some (s,.rw 1 (l.map BG))) (hlen:len=l.length) (hk:K (.row key 0 1 0 (dg (val l)).length) M):CG L 65 [.row key 0 1 0 len] tm M K:=by
 subst hlen;unfold CG;intro σ own hs;have fm:=hs.site _ _ _ hm;have Fq:c8 M key 0=some (.rw 1 (l.map BG)):=by simp only[c8,hm]
 have hb:=hs.e7 _ _ _ Fq;have ht:=hs.old _ _ _ Fq;refine ⟨.row key 0 1 0 (dg (val l)).length,own,σ,M,?_,hs,λ_=>rfl,hk⟩;exact AdO N l (σ key 0).1 (σ key 0).2 own hD hl hb ht (hs.low _ _ _ (GY hm) rfl)
end Go.e6

namespace Go.e6
open F
attribute [local irreducible] AH A8 BT A5 EW BJ CS CR EU DK EE II C8 B5 DB FG AP CG BF pw HE FL HO HG HN G2 G5 DG FF
set_option maxHeartbeats 1000000
variable {L:Lib}
def JR (n:Int):Prop := -9223372036854775808<=n/\n<=9223372036854775807
structure Wd where
 b:Int
 f:Int
 r:Int
 o:Int
abbrev EO (w:Wd):List AV:=[.int .i64 w.b,.int .i64 w.f,.int .i64 w.r,.int .i64 w.o]
theorem Afr (I:g9 L) (r:Int):Ev L 1 [.int .i64 r] (.bool (decide (1<=r/\r<=3))):=by
 refine Ev.x I.RB rfl rfl ?_;(repeat' ((first|(apply BB<;>intro hc<;>try omega)|apply A7)<;>conv=>whnf))
 all_goals (first|exact VY (by omega)|exact QF (by omega))
theorem wW (I:g9 L) (v a b:Int):Ev L 10 [.int .i64 v,.int .i64 a,.int .i64 b] (.bool (decide (a<=v/\v<=b))):=by
 refine Ev.x I.T7 rfl rfl ?_;(repeat' ((first|(apply BB<;>intro hc<;>try omega)|apply A7)<;>conv=>whnf))
 all_goals (first|exact VY (by omega)|exact QF (by omega))
def WV (w:Wd):Prop:=4<=w.b/\w.b<=24/\0<=w.f/\w.f<w.b/\1<=w.r/\w.r<=3/\1<=w.o/\w.o<=2
instance (w : Wd) : Decidable (WV w) := by unfold WV; infer_instance
variable (w:Wd)
theorem M4 (I:g9 L):Ev L 2 [.agg (EO w)] (.bool (decide (WV w))):=by
 refine Ev.x I.RA rfl rfl ?_;(repeat' ((first|(apply BB<;>intro hc<;>try omega)|apply A7|refine FI (Afr I _) (λ hf => ?_) (λ hf => ?_))<;>conv=>whnf))
 all_goals (unfold WV;first|exact VY (by omega)|exact QF (by omega))
theorem Q4 (I:g9 L):Ev L 11 [.agg (EO w)] (.bool (decide (WV w))):=by
 refine Ev.x I.UC rfl rfl ?_;(repeat' ((first|(apply DC;omega)|apply A7|refine FI (wW I _ _ _) (λ hf => ?_) (λ hf => ?_))<;>conv=>whnf))
 all_goals (unfold WV;first|exact VY (by omega)|exact QF (by omega))
def WH:Int:=if WV w then -pw (w.b-1) else 0
def WE:Int:=if WV w then pw (w.b-1)-1 else 0
theorem Afq (I:g9 L):Ev L 3 [.agg (EO w)] (.int .i64 (WH w)):=by
 refine Ev.x I.Q9 rfl rfl ?_;by_cases hv:WV w;all_goals (
  have jg:=hv;unfold WV at jg;(repeat' ((first|(apply DC;omega)|(refine JN ?_ (λ_ _ => ?_);omega)|apply fJ|(apply EW.neg;omega)|apply A7|refine FI (M4 _ I) (λ hf => ?_) (λ hf => ?_))<;>conv=>whnf))
  all_goals (first|contradiction|exact DY (by rw[WH,if_pos hv])|exact DY (by rw[WH,if_neg hv])))
theorem Afp (I:g9 L):Ev L 4 [.agg (EO w)] (.int .i64 (WE w)):=by
 refine Ev.x I.Q8 rfl rfl ?_;by_cases hv:WV w;all_goals (
  have jg:=hv;unfold WV at jg;(repeat' ((first|(apply DC;omega)|(refine JN ?_ (λ_ _ => ?_);omega)|apply fJ|apply A7|refine FI (M4 _ I) (λ hf => ?_) (λ hf => ?_))<;>conv=>whnf))
  all_goals (first|contradiction|exact DY (by rw[WE,if_pos hv])|exact DY (by rw[WE,if_neg hv])))
theorem Af3 (I:g9 L):Ev L 12 [.agg (EO w)] (.int .i64 (WH w)):=by
 refine Ev.x I.T9 rfl rfl ?_;by_cases hv:WV w;all_goals (
  have jg:=hv;unfold WV at jg;(repeat' ((first|(apply DC;omega)|(refine JN ?_ (λ_ _ => ?_);omega)|apply fJ|(apply EW.neg;omega)|(apply DL;omega)|apply A7|refine FI (Q4 _ I) (λ hf => ?_) (λ hf => ?_))<;>conv=>whnf))
  all_goals (first|contradiction|exact DY (by rw[WH,if_pos hv])|exact DY (by rw[WH,if_neg hv])))
theorem Af2 (I:g9 L):Ev L 13 [.agg (EO w)] (.int .i64 (WE w)):=by
 refine Ev.x I.T6 rfl rfl ?_;by_cases hv:WV w;all_goals (
  have jg:=hv;unfold WV at jg;(repeat' ((first|(apply DC;omega)|(refine JN ?_ (λ_ _ => ?_);omega)|apply fJ|(apply DL;omega)|apply A7|refine FI (Q4 _ I) (λ hf => ?_) (λ hf => ?_))<;>conv=>whnf))
  all_goals (first|contradiction|exact DY (by rw[WE,if_pos hv])|exact DY (by rw[WE,if_neg hv])))
def FT (v:Int):Prop:=WV w/\WH w<=v/\v<=WE w
instance (v : Int) : Decidable (FT w v) := by unfold FT; infer_instance
theorem Q1 (I:g9 L) (v:Int):Ev L 5 [.agg (EO w),.int .i64 v] (.bool (decide (FT w v))):=by
 refine Ev.x I.Q7 rfl rfl ?_;(repeat' ((first|(apply BB<;>intro hc<;>try omega)|apply A7|refine FI (M4 _ I) (λ hf => ?_) (λ hf => ?_)|refine AY (Afq _ I) ?_|refine AY (Afp _ I) ?_)<;>conv=>whnf))
 all_goals (unfold FT;first|exact VY ⟨by assumption,by assumption,by assumption⟩|exact QF (by rintro ⟨h1,h2,h3⟩;first|contradiction|omega))
theorem gW (I:g9 L) (v:Int):Ev L 14 [.agg (EO w),.int .i64 v] (.bool (decide (FT w v))):=by
 refine Ev.x I.TZ rfl rfl ?_;(repeat' ((first|apply A7|refine FI (Q4 _ I) (λ hf => ?_) (λ hf => ?_)|refine FI (wW I _ _ _) (λ hf => ?_) (λ hf => ?_)|refine AY (Af3 _ I) ?_|refine AY (Af2 _ I) ?_)<;>conv=>whnf))
 all_goals (unfold FT;first|exact VY ⟨by assumption,by assumption⟩|exact QF (by rintro ⟨h1,h2⟩;contradiction))
end Go.e6

namespace Go.e6
open F
attribute [local irreducible] AH A8 BT A5 EW BJ CS CR EU DK EE II C8 B5 DB FG AP CG BF pw HE FL HO HG HN G2 G5 DG FF
set_option maxHeartbeats 1000000
variable {L:Lib}
theorem VF {α:Type} {l:List α} {i:Nat} {e:α} (h:l[i]? = some e):l.drop i=e::l.drop (i+1):=by
 obtain ⟨h1,h2⟩:=zS h;rw[List.drop_eq_getElem_cons h1,h2]
theorem cP {α:Type} {l:List α} {i:Nat} (h:l.length<=i):l.drop i=[]:=List.drop_eq_nil_of_le h
theorem Af4 (I:g9 L) (xs ys:List Int) (q1 q2:Bool) (hx:xs.length<9223372036854775808) (hy:ys.length<9223372036854775808):Ev L 20 [.sl q1 (xs.map GJ),.sl q2 (ys.map GJ)] (.bool (decide (xs=ys))):=by
 refine Ev.x I.UA rfl rfl ?_;(repeat' ((first|(apply BB<;>intro hc<;>try omega)|apply BR|apply A7)<;>conv=>whnf))
 ·exact QF (by intro e;subst e;omega)
 ·have h:=hc
  refine HC (λ i=>xs.length-i) (λ(i:Nat)=>i<=xs.length/\(xs=ys↔xs.drop i=ys.drop i)) (λ i=>[(5,.int .i64 i)]) (λ_=>[]) 0 ⟨by omega,by simp⟩ ?_;intro i ⟨p1,p2⟩ ih;(repeat' ((first|(apply BB<;>intro hc<;>try omega)|(apply BS;omega)|apply BR|(refine bI ?_ (λ_=>rfl) (λ e he => ?_);omega)|apply A7)<;>conv=>whnf))
  ·rename_i e1 h1
   refine QF ?_;rw[p2,VF h1,VF he];intro e;exact hc (List.cons.inj e).1
  ·rename_i e1 h1
   refine C5 [] (by (conv=>whnf);exact ⟨rfl,rfl,rfl⟩) (ih (i+1) (by omega) ⟨by omega,?_⟩);rw[p2,VF h1,VF he,hc];simp
  ·refine VY ?_
   rw[p2,cP (by omega),cP (by omega)]
structure Nd where
 q:Bool
 ts:List (Int × Int)
abbrev OE (t:Int × Int):List AV:=[.int .i64 t.1,.int .i64 t.2]
abbrev KC (n:Nd):List AV:=[.sl n.q (n.ts.map OE)]
structure Nt where
 d:Wd
 c:Wd
 s:Int
 qn:Bool
 nodes:List Nd
 qx:Bool
 next:List Int
 out:Int
abbrev HJ (n:Nt):List AV:=[.int .i64 n.d.b,.int .i64 n.d.f,.int .i64 n.d.r,.int .i64 n.d.o,.int .i64 n.c.b,.int .i64 n.c.f,.int .i64 n.c.r,.int .i64 n.c.o,.int .i64 n.s,.sl n.qn (n.nodes.map KC),.sl n.qx (n.next.map GJ),.int .i64 n.out]
def VV (c:Wd) (s:Int) (k:Nat) (t:Int × Int):Bool:=decide (0<=t.1/\t.1<=s+k/\(t.2=pw c.f\/FT c t.2))
def PW (c:Wd) (s:Int):Nat->List Nd->Bool
 | _,[]=>true
 | k,n::l=>(decide (n.ts.length<=64)&&n.ts.all (VV c s k))&&PW c s (k+1) l
def YV (m:Int) (l:List Int):Bool:=l.all λ k=>decide (0<=k/\k<=m)
def XL (n:Nt):Bool:=decide (WV n.d)&&decide (WV n.c)&&decide (0<=n.s/\n.s<=64/\n.nodes.length<=64/\(n.next.length:Int)=n.s)&&PW n.c n.s 0 n.nodes&&YV (n.s+n.nodes.length) n.next&&decide (0<=n.out/\n.out<=n.s+n.nodes.length)
variable (n:Nt)
theorem WL:XL n=true↔WV n.d/\WV n.c/\(0<=n.s/\n.s<=64/\n.nodes.length<=64/\(n.next.length:Int)=n.s)/\PW n.c n.s 0 n.nodes=true/\YV (n.s+n.nodes.length) n.next=true/\0<=n.out/\n.out<=n.s+n.nodes.length:=by
 simp only[XL,Bool.and_eq_true,decide_eq_true_eq,and_assoc]
theorem cQ {x:Bool} (h : ¬ x=true):false=x:=by simp at h;rw[h]
theorem eqT {x:Bool} (h:x=true):true=x:=by rw[h]
theorem wM (I:g9 L) (J:fx L):Ev L 21 [.agg (HJ n)] (.bool (XL n)):=by
 refine Ev.x J.SD rfl rfl ?_;(repeat' ((first|(apply BB<;>intro hc<;>try omega)|apply BR|apply A7|refine FI (M4 ⟨_,_,_,_⟩ I) (λ hf => ?_) (λ hf => ?_))<;>conv=>whnf))
 all_goals try (
  refine H8 (cQ ?_);rw[WL];rintro ⟨x1,x2,x3,_⟩
  first|contradiction|omega)
 rename_i h1 h3 h4 h5;have h2:=hf;have h6:=hc;have h1:WV n.d:=h1;have h2:WV n.c:=h2;have hw:=h2;unfold WV at hw;refine HC (λ i=>n.nodes.length-i) (λ(i:Nat)=>i<=n.nodes.length/\PW n.c n.s i (n.nodes.drop i)=PW n.c n.s 0 n.nodes) (λ i=>[(45,.int .i64 i)]) (λ_=>[]) 0 ⟨by omega,rfl⟩ ?_;intro i ⟨p1,p2⟩ ih;(repeat' ((first|(apply BB<;>intro hc<;>try omega)|(apply BS;omega)|apply BR|(refine bI ?_ (λ_=>rfl) (λ e he => ?_);omega)|apply A7)<;>conv=>whnf))
 ·rename Nd=>nd
  have hnd:=he;rw[VF hnd,PW,decide_eq_false (by omega)]at p2;refine H8 (cQ ?_);rw[WL,<-p2];simp
 ·rename Nd=>nd
  have hnd:=he;rw[VF hnd,PW,decide_eq_true (by omega),Bool.true_and]at p2;refine HC (λ j=>nd.ts.length-j) (λ(j:Nat)=>j<=nd.ts.length/\(nd.ts.drop j).all (VV n.c n.s i)=nd.ts.all (VV n.c n.s i)) (λ j=>[(57,.int .i64 j)]) (λ_=>[]) 0 ⟨by omega,rfl⟩ ?_;intro j ⟨r1,r2⟩ kg;(repeat' ((first|(apply BB<;>intro hc<;>try omega)|(apply BS;omega)|(refine JN ?_ (λ_ _ => ?_);omega)|(refine bI ?_ (λ_=>rfl) (λ e he => ?_);omega)|apply A7|refine FI (Q1 ⟨_,_,_,_⟩ I _) (λ hf => ?_) (λ hf => ?_))<;>conv=>whnf))
  all_goals try (
   have hb:VV n.c n.s i e=false:=by
    simp only[VV,decide_eq_false_iff_not];intro hh;first|omega|exact absurd hh.2.2 (λ hx=>hx.elim (λ hx=>by omega) (λ hx=>by contradiction))
   rw[VF he,List.all_cons,hb,Bool.false_and]at r2;rw[<-r2,Bool.false_and]at p2;refine H8 (cQ ?_);rw[WL,<-p2];simp;done)
  all_goals try (
   have hb:VV n.c n.s i e=true:=by
    simp only[VV,decide_eq_true_eq];exact ⟨by omega,by omega,by first|exact Or.inr (by assumption)|exact Or.inl (by assumption)⟩
   rw[VF he,List.all_cons,hb,Bool.true_and]at r2;exact C5 [] (by (conv=>whnf);exact ⟨rfl,rfl,rfl⟩) (kg (j+1) (by omega) ⟨by omega,r2⟩))
  rw[cP (by omega)]at r2;rw[<-r2,List.all_nil,Bool.true_and]at p2;exact D0 [] (ih (i+1) (by omega) ⟨by omega,p2⟩)
 ·rw[cP (by omega),PW]at p2
  refine HC (λ i=>n.next.length-i) (λ(i:Nat)=>i<=n.next.length/\YV (n.s+n.nodes.length) (n.next.drop i)=YV (n.s+n.nodes.length) n.next) (λ i=>[(99,.int .i64 i)]) (λ_=>[]) 0 ⟨by omega,rfl⟩ ?_;intro k ⟨r1,r2⟩ ih3;(repeat' ((first|(apply BB<;>intro hc<;>try omega)|(apply BS;omega)|(refine bI ?_ (λ_=>rfl) (λ e he => ?_);omega)|apply A7)<;>conv=>whnf))
  all_goals try (
   have hb:decide (0<=e/\e<=n.s+n.nodes.length)=false:=by (rw[decide_eq_false_iff_not];omega)
   rw[VF he,YV,List.all_cons,hb,Bool.false_and]at r2;refine H8 (cQ ?_);rw[WL,<-r2];simp;done)
  all_goals try (
   have hb:decide (0<=e/\e<=n.s+n.nodes.length)=true:=by (rw[decide_eq_true_eq];omega)
   rw[VF he,YV,List.all_cons,hb,Bool.true_and]at r2;exact C5 [] (by (conv=>whnf);exact ⟨rfl,rfl,rfl⟩) (ih3 (k+1) (by omega) ⟨by omega,r2⟩))
  all_goals (
   rw[cP (by omega)]at r2;first
    | (refine H8 (eqT ?_);rw[WL];exact ⟨h1,h2,by omega,p2.symm,r2.symm,by omega,by omega⟩)
    | (refine H8 (cQ ?_);rw[WL];omega))
end Go.e6

namespace Go.e6
open F
attribute [local irreducible] AH A8 BT A5 EW BJ CS CR EU DK EE II C8 B5 DB FG AP CG BF pw HE FL HO HG HN G2 G5 DG FF
variable {L:Lib}
set_option maxHeartbeats 1000000
theorem Ajs (n:Int):JR (IntKind.i64.wrap n):=by
 unfold JR;rw[IntKind.wrap_i64];omega
def HT (v m:Int):Int:=if m<1 then 0 else v%m
theorem gX (W:o4 L) (v m:Int) (hv:JR v) (hm:m<=9223372036854775807):Ev L 34 [.int .i64 v,.int .i64 m] (.int .i64 (HT v m)):=by
 unfold JR at hv;refine Ev.x W.U0 rfl rfl ?_;(repeat' ((first|(apply BB<;>intro hc<;>try omega)|(apply BS;omega)|(refine X2 ?_ (λ_ _ _ => ?_) (λ_ _ _ _ => ?_);omega;all_goals try omega)|apply A7)<;>conv=>whnf))
 all_goals (refine DY ?_;unfold HT;first|rw[if_pos (by omega)]|rw[if_neg (by omega)])
 all_goals omega
def J9 (l:List Int) (i:Int):Int:=if 0<=i/\i<l.length then l.getD i.toNat 0 else 0
theorem xC (W:o4 L) (l:List Int) (q:Bool) (i:Int):Ev L 35 [.sl q (l.map GJ),.int .i64 i] (.int .i64 (J9 l i)):=by
 refine Ev.x W.UU rfl rfl ?_;(repeat' ((first|(apply BB<;>intro hc<;>try omega)|apply BR|(refine kS ?_ (λ_=>rfl) (λ e he => ?_);omega)|apply A7)<;>conv=>whnf))
 all_goals (refine DY ?_;unfold J9;first|rw[if_neg (by omega)]|(rw[if_pos (by omega),List.getD_eq_getElem?_getD,he];rfl))
theorem eP {v m:Int} (h:1<=m):0<=HT v m/\HT v m<m:=by
 unfold HT;rw[if_neg (by omega)];exact ⟨Int.emod_nonneg _ (by omega),Int.emod_lt_of_pos _ (by omega)⟩
def XY (k least most above:Int):Wd :=
 let K:=HT k 1099511627776
 let b:=least+K%(most-least+1)
 let K1:=K/(most-least+1)
 ⟨b,max (b-1-above-K1%2) 0,1+K1/2%3,1+K1/2/3%2⟩
theorem xD (W:o4 L) (k least most above:Int) (hk:JR k) (h1:1<=least/\least<=most/\most<=1000/\0<=above/\above<=1000):Ev L 36 [.int .i64 k,.int .i64 least,.int .i64 most,.int .i64 above] (.agg (EO (XY k least most above))):=by
 refine Ev.x W.U1 rfl rfl ?_;have hr:=eP (v:=k) (m:=1099511627776) (by omega);have h3:0<=HT k 1099511627776/(most-least+1):=Int.ediv_nonneg hr.1 (by omega);have h4:HT k 1099511627776/(most-least+1)<=HT k 1099511627776:=Int.ediv_le_self _ hr.1;(repeat' ((first|(apply BB<;>intro hc<;>try omega)|(apply BS;omega)|(apply DC;omega)|(refine X2 ?_ (λ_ _ _ => ?_) (λ_ _ _ _ => ?_);omega;all_goals try omega)|(refine U4 ?_ ?_ (λ_ => ?_) (λ_ _ => ?_);omega;omega;all_goals try omega)|apply A7|refine AY (gX W _ _ hk (by omega)) ?_)<;>conv=>whnf))
 all_goals (
  refine BU ?_ (by simp [B4,DN]);simp only[XY,AV.agg.injEq,List.cons.injEq,AV.int.injEq,true_and,and_true];omega)
def cN (k:Int):Wd:=XY k 6 12 2
def cH (k:Int):Wd:=XY k 6 9 1
theorem Pm {k least most above:Int} (h:4<=least/\least<=most/\most<=24/\0<=above):WV (XY k least most above)/\least<=(XY k least most above).b/\(XY k least most above).b<=most:=by
 have hr:=eP (v:=k) (m:=1099511627776) (by omega);have h1:0<=HT k 1099511627776%(most-least+1):=Int.emod_nonneg _ (by omega);have h2:HT k 1099511627776%(most-least+1)<most-least+1:=Int.emod_lt_of_pos _ (by omega);simp only[WV,XY];generalize HT k 1099511627776/(most-least+1)=d;omega
theorem Zd (k:Int):WV (cN k)/\6<=(cN k).b/\(cN k).b<=12:=Pm (by omega)
theorem Zv (k:Int):WV (cH k)/\6<=(cH k).b/\(cH k).b<=9:=Pm (by omega)
theorem Agd (W:o4 L) (k:Int) (hk:JR k):Ev L 37 [.int .i64 k] (.agg (EO (cN k))):=by
 refine Ev.x W.UX rfl rfl ?_;(repeat' ((first|apply A7|refine AY (xD W _ _ _ _ hk (by omega)) ?_)<;>conv=>whnf))
 exact BU rfl (by simp [B4,DN])
theorem Agc (W:o4 L) (k:Int) (hk:JR k):Ev L 38 [.int .i64 k] (.agg (EO (cH k))):=by
 refine Ev.x W.UW rfl rfl ?_;(repeat' ((first|apply A7|refine AY (xD W _ _ _ _ hk (by omega)) ?_)<;>conv=>whnf))
 exact BU rfl (by simp [B4,DN])
theorem Age (W:o4 L) (w:Wd) (h:WV w):Ev L 41 [.agg (EO w)] (.int .i64 (pw w.f)):=by
 unfold WV at h;refine Ev.x W.UZ rfl rfl ?_;(repeat' ((first|(refine JN ?_ (λ_ _ => ?_);omega)|(apply DL;omega)|apply A7)<;>conv=>whnf))
 exact DY rfl
theorem pB {w:Wd} (h:WV w):WH w = -pw (w.b-1)/\WE w=pw (w.b-1)-1/\1<=pw (w.b-1)/\pw (w.b-1)<=8388608:=by
 have h':=h;unfold WV at h';refine ⟨by rw[WH,if_pos h],by rw[WE,if_pos h],PX _,?_⟩;have:=XP (n:=w.b-1) (m:=23) (by omega)
 have e:pw 23=8388608:=by unfold pw;rfl
 omega
theorem Aii {α:Type} (f:Nat->α) (n:Nat):(List.range (n+1)).map f=(List.range n).map f++[f n]:=by rw[List.range_succ,List.map_append];rfl
def Ui (b v:Int):Int:=HT (IntKind.i64.wrap (v+b)) (2*b+1)-b
def W6 (b:Int) (l:List Int) (n:Nat):List Int:=(List.range n).map λ i:Nat=>Ui b (J9 l (i:Int))
theorem Agb (W:o4 L) (b:Int) (hb:0<=b/\b<=1000000000000) (l:List Int) (q:Bool) (n:Nat) (hn:n<=1000000):Ev L 40 [.int .i64 b,.sl q (l.map GJ),.int .i64 n] (.sl false ((W6 b l n).map GJ)):=by
 refine Ev.x W.UV rfl rfl ?_;(repeat' (apply A7<;>conv=>whnf))
 refine PL (λ i _=>n-i) (λ(i:Nat) (o:List Int)=>i<=n/\o.length=i/\o=W6 b l i) (λ i o=>[(7,.row 7 0 1 0 o.length),(8,.int .i64 i)]) (λ i o=>[(7,7,.rw 1 (o.map GJ))]) 0 [] ⟨by omega,rfl,rfl⟩ ?_;intro i o ⟨p1,p2,p3⟩ ih;have hr:=eP (v:=IntKind.i64.wrap (J9 l i+b)) (m:=2*b+1) (by omega);(repeat' ((first|(apply BB<;>intro hc<;>try omega)|(apply BS;omega)|(apply DC;omega)|(apply FU;omega)|apply sN|(refine GR (λ_=>rfl) rfl ?_ ?_;(first|rfl|simp))|apply FM|apply A7|refine AY (xC W l _ _) ?_|refine AY (gX W _ _ (Ajs _) (by omega)) ?_)<;>conv=>whnf))
 ·refine G3 (enc:=GJ) _ rfl rfl rfl (by omega) (by omega) ?_
  (conv=>whnf)
  (repeat' ((first|(apply BS;omega)|fail)<;>conv=>whnf))
  refine C5 [(7,27)] (by (conv=>whnf);exact ⟨rfl,rfl,rfl⟩) (ih (i+1) _ (by omega) ⟨by omega,by simp [p2],?_⟩);rw[W6,Aii,p3];rfl
 ·have:i=n:=by omega
  subst this;exact BU (by rw[p3]) (by simp [B4,uD])
end Go.e6

namespace Go.e6
theorem Pl {A w C:List Nat} {i n:Nat} (hi:i=A.length+n) (hn:n<w.length):(A++w++C)[i]? = w[n]? := by
 subst hi;rw[List.append_assoc,List.getElem?_append_right (by omega),Nat.add_sub_cancel_left,List.getElem?_append_left hn]
theorem Ajn {A w C:List Nat} {i n v:Nat} (hi:i=A.length+n) (hn:n<w.length):(A++w++C).set i v=A++w.set n v++C:=by
 subst hi;rw[List.append_assoc,List.set_append_right _ _ (by omega),Nat.add_sub_cancel_left,List.set_append_left _ _ hn,List.append_assoc]
theorem U5 {A w C:List Nat} {i v:Nat} {KK:List (List AV)->Prop} (n:Nat) (hi:i=A.length+n) (hn:n<w.length) (h:KK ((A++w.set n v++C).map BG)):CR ((A++w++C).map BG) i 0 [.int .u32 (v:Int)] KK:=by
 have hl:i<(A++w++C).length:=by simp;omega
 refine bV (enc:=BG) i v rfl rfl (λ_=>rfl) hl ?_;rw[Ajn hi hn];exact h
theorem AhG {W X Vi p q u d c b pr t:Nat} (h:W+q*Vi=X+p*(c+b)) (sf:pr=q*d+c) (ht:t=GZ (GZ u (pr%4294967296)) b) (hu:u<4294967296) (hb:b<=1) :
  W+p*(t%4294967296)+q*(Vi+p*d)=X+p*u+p*4294967296*(pr/4294967296+t/9223372036854775808):=by
 obtain ⟨h1,_⟩:=jV hu (show pr%4294967296<4294967296 by omega) hb;rw[<-ht]at h1;have h2:=Nat.mod_add_div pr 4294967296;generalize t%4294967296=w at *;generalize t/9223372036854775808=b' at *;generalize pr%4294967296=pl at *;generalize pr/4294967296=ph at *;have e1:p*(w+pl+b)=p*(u+4294967296*b'):=by rw[h1]
 have e2:p*(pl+4294967296*ph)=p*(q*d+c):=by rw[h2,sf]
 grind
theorem Oa {q d c pr:Nat} (hq:q<4294967296) (hd:d<4294967296) (hc:c<4294967296) (sf:pr=q*d+c):pr/4294967296<4294967296/\pr<=18446744073709551615/\q*d<=18446744065119617025:=by
 have:=aE hq hd
 omega
theorem AhE {W X V p q u c b t:Nat} (h:W+q*V=X+p*(c+b)) (ht:t=GZ (GZ u c) b) (hu:u<4294967296) (hc:c<4294967296) (hb:b<=1) :
  W+p*(t%4294967296)+q*V=X+p*u+p*4294967296*(t/9223372036854775808):=by
 obtain ⟨h1,_⟩:=jV hu hc hb;rw[<-ht]at h1;generalize t%4294967296=w at *;generalize t/9223372036854775808=b' at *;have e1:p*(w+c+b)=p*(u+4294967296*b'):=by rw[h1]
 grind
theorem AhH {W X Vi p q u d c b pr w take have' dc:Nat} (h:W+q*Vi=X+p*(c+b)) (sf:pr=c+q*d) (h1:take=pr%4294967296+b) (h2:(have'=u/\dc=0/\take<=u)\/(have'=u+4294967296/\dc=1/\u<take)) (h3:w+take=have') :
  W+p*w+q*(Vi+p*d)=X+p*u+p*4294967296*(pr/4294967296+dc):=by
 have h4:=Nat.mod_add_div pr 4294967296;have h5:w+pr%4294967296+b=u+4294967296*dc:=by omega
 generalize pr%4294967296=pl at *;generalize pr/4294967296=ph at *;have e1:p*(w+pl+b)=p*(u+4294967296*dc):=by rw[h5]
 have e2:p*(pl+4294967296*ph)=p*(c+q*d):=by rw[h4,sf]
 grind
theorem AhF {W X V p q u c b w take have' dc:Nat} (h:W+q*V=X+p*(c+b)) (h1:take=c+b) (h2:(have'=u/\dc=0/\take<=u)\/(have'=u+4294967296/\dc=1/\u<take)) (h3:w+take=have') :
  W+p*w+q*V=X+p*u+p*4294967296*dc:=by
 have h5:w+c+b=u+4294967296*dc:=by omega
 have e1:p*(w+c+b)=p*(u+4294967296*dc):=by rw[h5]
 grind
theorem sX {W X Vi p w d c t:Nat} (h:W+p*c=X+Vi) (ht:t=w+d+c):W+p*(t%4294967296)+p*4294967296*(t/4294967296)=X+p*w+(Vi+p*d):=by
 have h1:=V8 W p t;have e:p*t=p*w+p*d+p*c:=by rw[ht];grind
 omega
theorem sW {W X V R p w c:Nat} (h:W+p*c=X+V) (hX:X+p*w+V=R+p*4294967296) (hR:R<p*4294967296) (hW:W<p):W+p*((w+c)%4294967296)=R:=by
 have h1:W+p*(w+c)=R+p*4294967296:=by
  rw[Nat.mul_add];omega
 have h2:=Nat.mod_add_div (w+c) 4294967296;have h3:p*(w+c)=p*((w+c)%4294967296)+p*4294967296*((w+c)/4294967296):=by
  rw[Nat.mul_assoc,<-Nat.mul_add,h2]
 have h4:(w+c)%4294967296<4294967296:=Nat.mod_lt _ (by omega);generalize (w+c)%4294967296=m at *;generalize (w+c)/4294967296=k at *;have h5:W+p*m<p*4294967296:=by
  have:p*m+p<=p*4294967296:=by rw[<-Nat.mul_succ];exact Nat.mul_le_mul_left p (by omega)
  omega
 have h6:k=1:=by
  rcases Nat.lt_trichotomy k 1 with hk|hk|hk
  ·have:k=0:=by omega
   subst this;omega
  ·exact hk
  ·have:p*4294967296*2<=p*4294967296*k:=Nat.mul_le_mul_left _ (by omega)
   omega
 subst h6;omega
theorem Ajf {U V UL VL p u2 v2 v1 top:Nat} (hU:U=UL+p*(u2+4294967296*top)) (hV:V=VL+p*(v2+4294967296*v1)) (Av:VL<p) (h2:v2<4294967296) (h:U<4294967296*V):top<4294967296*(v1+1):=by
 have h3:V<p*(4294967296*(v1+1)):=by
  have:p*(v2+4294967296*v1)+p<=p*(4294967296*(v1+1)):=by
   rw[<-Nat.mul_succ];exact Nat.mul_le_mul_left p (by omega)
  omega
 have h4:p*(4294967296*top)<=U:=by
  have:p*(4294967296*top)<=p*(u2+4294967296*top):=Nat.mul_le_mul_left p (by omega)
  omega
 have h5:p*(4294967296*top)<p*(4294967296*(4294967296*(v1+1))):=by
  have:p*(4294967296*(4294967296*(v1+1)))=4294967296*(p*(4294967296*(v1+1))):=by grind
  omega
 have:=Nat.lt_of_mul_lt_mul_left h5
 omega
structure Gs (U V v1 v2 u2 top q r:Nat):Prop where
 hq:q*v1+r=top
 hr:r<4294967296
 ge:U/V<=q
theorem Gs.next {U V UL VL p v1 v2 u2 top q r:Nat} (g:Gs U V v1 v2 u2 top q r) (hU:U=UL+p*(u2+4294967296*top)) (hV:V=VL+p*(v2+4294967296*v1)) (Cn:UL<p) (bg:0<V) (Gp:U<4294967296*V)
  (h:4294967296<=q\/r*4294967296+u2<q*v2):1<=q/\(q-1)*v1+(r+v1)=top/\U/V<=q-1:=by
 have h1:U/V<q:=by
  rcases h with h|h
  ·exact Agy Gp h bg
  ·exact Agz hU hV Cn g.hq h bg
 have hq:=g.hq;clear h g hU hV Gp;generalize U/V=Q at *;obtain ⟨k,rfl⟩ : ∃ k,q=k+1:=⟨q-1,by omega⟩;refine ⟨by omega,?_,by omega⟩;rw[Nat.add_sub_cancel,<-hq,Nat.add_mul];omega
theorem Gs.start {U V UL VL p v1 v2 u2 top:Nat} (hU:U=UL+p*(u2+4294967296*top)) (hV:V=VL+p*(v2+4294967296*v1)) (Cn:UL<p) (h2:u2<4294967296) (bg:0<V) (h1:0<v1) (h1b:v1<4294967296):Gs U V v1 v2 u2 top (top/v1) (top%v1):=by
 refine ⟨by rw[Nat.mul_comm];exact Nat.div_add_mod _ _,?_,?_⟩
 ·have:=Nat.mod_lt top h1
  omega
 ·rw[Nat.le_div_iff_mul_le h1]
  exact AgA hU hV Cn h2 bg
theorem Z7 {U V UL VL p v1 v2 u2 top q r:Nat} (hU:U=UL+p*(u2+4294967296*top)) (hV:V=VL+p*(v2+4294967296*v1)) (Av:VL<p) (Hh:2147483648<=v1) (Hi:v2<4294967296) (Gp:U<4294967296*V) (hq:q*v1+r=top)
  (h:(q<4294967296/\q*v2<=r*4294967296+u2)\/4294967296<=r):q<4294967296/\q<=U/V+1:=by
 rcases h with ⟨h1,h2⟩|h
 ·exact ⟨h1,yE hU hV Av Hh hq h2 h1⟩
 ·have ht:=Ajf hU hV Av Hi Gp
  have Da:q<4294967296:=by
   have h3:q*v1<4294967296*v1:=by omega
   exact Nat.lt_of_mul_lt_mul_right h3
  refine ⟨Da,yE hU hV Av Hh hq ?_ Da⟩;have:=aE Da Hi
  omega
theorem ZC (a:List Nat) (k:Nat):val a=val (a.take k)+4294967296^k*val (a.drop k):=by
 rcases Nat.lt_or_ge a.length k with h|h
 ·rw[zT (by omega),List.drop_of_length_le (by omega),O8];omega
 ·exact QB a k h
theorem ZB (a:List Nat) (k:Nat):val (a.drop k)=a.getD k 0+4294967296*val (a.drop (k+1)):=by
 rcases Nat.lt_or_ge k a.length with h|h
 ·rw[NH (zE h),List.getD_eq_getElem?_getD,zE h];rfl
 ·rw[List.drop_of_length_le h,List.drop_of_length_le (by omega),List.getD_eq_getElem?_getD,List.getElem?_eq_none h];rfl
theorem XD {a:List Nat} (h:BZ a) (k:Nat):a.getD k 0<4294967296:=by
 rw[List.getD_eq_getElem?_getD];cases e:a[k]? with
 | none=>simp
 | some d=>simpa using h.at e
theorem getD_some {a:List Nat} {k d:Nat} (h:a[k]? = some d):d=a.getD k 0:=by rw[List.getD_eq_getElem?_getD,h];rfl
theorem XF {a:List Nat} {k:Nat} (h:a.length<=k):0=a.getD k 0:=by rw[List.getD_eq_getElem?_getD,List.getElem?_eq_none h];rfl
theorem kC {a:List Nat} (hD:BZ a) {n:Nat} (hn:3<=n) (hl:a.length<=n) : ∃ r,r<4294967296^(n-3)/\val a=r+4294967296^(n-3)*(a.getD (n-3) 0+4294967296*(a.getD (n-2) 0+4294967296*a.getD (n-1) 0)):=by
 refine ⟨val (a.take (n-3)),?_,?_⟩
 ·refine Nat.lt_of_lt_of_le (HS (hD.take _)) (Nat.pow_le_pow_right (by omega) ?_)
  rw[List.length_take];omega
 ·have h1:=ZC a (n-3)
  have h2:=ZB a (n-3);have h3:=ZB a (n-3+1);have h4:=ZB a (n-3+1+1);rw[List.drop_of_length_le (show a.length<=n-3+1+1+1 by omega),O8]at h4;rw[show n-3+1=n-2 by omega]at *;rw[show n-2+1=n-1 by omega]at *;rw[h4,Nat.mul_zero,Nat.add_zero]at h3;rw[h3]at h2;rw[h2]at h1;exact h1
theorem Ph {a:List Nat} (hD:BZ a) {n:Nat} (hn:2<=n) (hl:a.length<=n) : ∃ r,r<4294967296^(n-2)/\val a=r+4294967296^(n-2)*(a.getD (n-2) 0+4294967296*a.getD (n-1) 0):=by
 refine ⟨val (a.take (n-2)),?_,?_⟩
 ·refine Nat.lt_of_lt_of_le (HS (hD.take _)) (Nat.pow_le_pow_right (by omega) ?_)
  rw[List.length_take];omega
 ·have h1:=ZC a (n-2)
  have h2:=ZB a (n-2);have h3:=ZB a (n-2+1);rw[List.drop_of_length_le (show a.length<=n-2+1+1 by omega),O8]at h3;rw[show n-2+1=n-1 by omega]at *;rw[h3,Nat.mul_zero,Nat.add_zero]at h2;rw[h2]at h1;exact h1
theorem XB {a b:Nat} (h:a<=b):(dg a).length<=(dg b).length:=by
 rcases Nat.lt_or_ge (dg b).length (dg a).length with h1|h1
 ·have:=aW h1;omega
 ·exact h1
theorem mG {p:Nat} (h:p<18446744073709551616):val [p%4294967296,p/4294967296]=p/\BZ [p%4294967296,p/4294967296]:=by
 refine ⟨by simp [val];omega,λ x hx => ?_⟩;simp at hx;omega
theorem KD {a:List Nat} {k d:Nat} (h:a[k]? = some d):a.getD k 0=d:=(getD_some h).symm
theorem oW {y:List Nat} {s yt:Nat} (hD:BZ y) (yk:y[y.length-1]? = some yt) (hl:1<=y.length) (hs:s<=31) (b3:2147483648<=yt*2^s) (b4:yt*2^s<4294967296):val y*2^s<4294967296^y.length/\4294967296^(y.length-1)*2147483648<=val y*2^s:=by
 have h1:=QB y (y.length-1) (by omega);have h2:=NH yk;rw[List.drop_of_length_le (show y.length<=y.length-1+1 by omega),O8,Nat.mul_zero,Nat.add_zero]at h2;rw[h2]at h1;have h3:=HS (hD.take (y.length-1));rw[List.length_take,Nat.min_eq_left (by omega)]at h3;have e:4294967296^y.length=4294967296^(y.length-1)*4294967296:=by rw[<-Nat.pow_succ,Nat.succ_eq_add_one,show y.length-1+1=y.length by omega]
 rw[e];generalize 4294967296^(y.length-1)=p at *;have hk:(yt+1)*2^s<=4294967296:=by
  have e2:4294967296=2^s*2^(32-s):=by rw[<-Nat.pow_add,show s+(32-s)=32 by omega]
  rw[e2,Nat.mul_comm]at b4;have:=Nat.lt_of_mul_lt_mul_left b4
  rw[e2,Nat.mul_comm];exact Nat.mul_le_mul_left _ this
 have h4:val y+1<=p*(yt+1):=by rw[Nat.mul_add];omega
 have h5:=zR (2^s) h4;have h6:p*((yt+1)*2^s)<=p*4294967296:=Nat.mul_le_mul_left p hk;rw[<-Nat.mul_assoc]at h6;have h7:p*2147483648<=p*(yt*2^s):=Nat.mul_le_mul_left p b3;have h8:p*(yt*2^s)<=val y*2^s:=by rw[<-Nat.mul_assoc];exact zR _ (by omega)
 have h9:=Nat.two_pow_pos s;rw[Nat.add_mul]at h5;exact ⟨by omega,by omega⟩
theorem Qu {v:List Nat} {k c d:Nat} (hD:BZ v) (hl:v.length=k+1) (h:4294967296^k*c<=val v) (hd:v[k]? = some d):c<=d:=by
 have h1:=QB v k (by omega);have h2:=NH hd;rw[List.drop_of_length_le (show v.length<=k+1 by omega),O8,Nat.mul_zero,Nat.add_zero]at h2;rw[h2]at h1;have h3:=HS (hD.take k);rw[List.length_take,Nat.min_eq_left (by omega)]at h3;generalize 4294967296^k=p at *;have h4:p*c<p*(d+1):=by rw[Nat.mul_add];omega
 have:=Nat.lt_of_mul_lt_mul_left h4
 omega
theorem vO (o:List Nat) (j n:Nat) (h:j+n<=o.length) : ∃ A W C,A.length=j/\W.length=n/\o=A++W++C:=by
 refine ⟨o.take j,(o.drop j).take n,(o.drop j).drop n,by simp;omega,by simp;omega,?_⟩;rw[List.append_assoc,List.take_append_drop,List.take_append_drop]
theorem uY {A W C:List Nat} (h:BZ (A++W++C)):BZ A/\BZ W/\BZ C:=by
 refine ⟨λ x hx=>h x (by simp [hx]),λ x hx=>h x (by simp [hx]),λ x hx=>h x (by simp [hx])⟩
theorem vQ {A W C:List Nat} {j l V:Nat} (hA:A.length=j) (hW:W.length=l+1) (hD:BZ (A++W++C)) (h:val ((A++W++C).drop (j+1))<V) (hV:V<4294967296^l) :
  val C=0/\val W<4294967296*V/\val ((A++W++C).take (j+1))+4294967296^(j+1)*val ((A++W++C).drop (j+1))=val A+4294967296^j*val W:=by
 have h1:=ZC (A++W++C) (j+1);have h2:val (A++W++C)=val A+4294967296^j*(val W+4294967296^(l+1)*val C):=by
  rw[List.append_assoc,aV,aV,hA,hW]
 have h3:=ZB (A++W++C) j;have h4:(A++W++C).drop j=W++C:=by
  rw[List.append_assoc,List.drop_append_of_le_length (by omega),List.drop_of_length_le (by omega)];rfl
 have h5:=XD hD j;rw[h4,aV,hW]at h3;rw[Nat.pow_succ]at h3;have h6:val C=0:=by
  rcases Nat.eq_zero_or_pos (val C) with h0|h0
  ·exact h0
  ·have:4294967296^l*4294967296*1<=4294967296^l*4294967296*val C:=Nat.mul_le_mul_left _ h0
   omega
 rw[h6,Nat.mul_zero,Nat.add_zero]at h3;refine ⟨h6,by omega,?_⟩;rw[<-h1,h2,h6,Nat.mul_zero,Nat.add_zero]
theorem mP {A W C:List Nat} {j:Nat} (hA:A.length=j) (hC:val C=0):val ((A++W++C).drop j)=val W/\val ((A++W++C).take j)=val A:=by
 rw[List.append_assoc,List.drop_append_of_le_length (by omega),List.drop_of_length_le (by omega),List.take_append_of_le_length (by omega),zT (by omega),List.nil_append,aV,hC];simp
theorem vP {U VA P Q q V W R:Nat} (h:U=VA+P*W+P*4294967296*(Q*V)) (h2:W=q*V+R):U=VA+P*((q+4294967296*Q)*V+R):=by
 rw[h,h2];grind
section
variable {a b:Nat} {K:AV->Prop}
theorem sK (n:Nat) (hx:a%2^n=0) (hy:b<2^n) (h:a+b<=18446744073709551615) (hk:K (.int .u64 ((a+b:Nat):Int))):A5 .or .u64 (a:Int) .u64 (b:Int) K :=
 kO n hx hy (show a+b<18446744073709551616 by omega) (IntWalk.u64_in _ (by omega)) hk
theorem fD (n:Nat) (hx:b%2^n=0) (hy:a<2^n) (h:a+b<=18446744073709551615) (hk:K (.int .u64 ((a+b:Nat):Int))):A5 .or .u64 (a:Int) .u64 (b:Int) K:=by
 have e:FH .or .u64 (a:Int) .u64 (b:Int)=FH .or .u64 (b:Int) .u64 (a:Int):=by
  simp only[FH,if_true,BitVec.or_comm]
 rw[Nat.add_comm]at hk h;have hh:=sK (K:=K) n hx hy h hk;unfold A5 at hh ⊢;rw[e];exact hh
end
theorem fA {a:Nat} {K:AV->Prop} (h:a<=18446744069414584319) (hk:K (.int .u64 ((a+4294967296:Nat):Int))):A5 .add .u64 (a:Int) .u64 4294967296 K :=
 JS (b:=4294967296) (by omega) hk
theorem PP {l:List Nat} {i e:Nat} {K:List AV->Prop} (he:l[i]? = some e) (h:K (BG e)):CS (l.map BG) (0+((i:Int)).toNat) 0 1 K :=
 kJ (e:=e) (by rw[Nat.zero_add,Int.toNat_natCast];exact he) rfl h
theorem Yu {l:List Nat} {i:Int} {e:Nat} {K:List AV->Prop} (he:l[i.toNat]? = some e) (h:K (BG e)):CS (l.map BG) (0+i.toNat) 0 1 K :=
 kJ (e:=e) (by rw[Nat.zero_add];exact he) rfl h
theorem W0 {A w C:List Nat} {i e:Nat} {K:List AV->Prop} (n:Nat) (he:w[n]? = some e) (hi:i=A.length+n) (h:K (BG e)):CS ((A++w++C).map BG) i 0 1 K:=by
 have hn:=(zS he).1;exact kJ (e:=e) (by rw[Pl hi hn];exact he) rfl h
end Go.e6

namespace Go.e6
def Z8 (n s:Nat):Nat:=4294967296^(n-3)*(2^(32-s)*4)
theorem Ahp (n s:Nat):0<Z8 n s:=Nat.mul_pos (Nat.pow_pos (by omega)) (Nat.mul_pos (Nat.two_pow_pos _) (by omega))
theorem yX {a:List Nat} (hD:BZ a) {n s d1 d2 d3:Nat} (hn:3<=n) (hl:a.length<=n) (hs:s<=31) (h1:d1=a.getD (n-1) 0) (h2:d2=a.getD (n-2) 0) (h3:d3=a.getD (n-3) 0) :
  ((d1*4294967296+d2)*2^s+d3*2^s/4294967296)/4=val a/Z8 n s:=by
 obtain ⟨r,hr,hv⟩:=kC hD hn hl;rw[<-h1,<-h2,<-h3]at hv;unfold Z8;rw[hv,<-Nat.div_div_eq_div_mul,Nat.add_mul_div_left _ _ (Nat.pow_pos (by omega)),Nat.div_eq_of_lt hr,Nat.zero_add,<-Nat.div_div_eq_div_mul];congr 1;have e:d3+4294967296*(d2+4294967296*d1)=d3+2^(32-s)*(2^s*(d1*4294967296+d2)):=by
  rw[<-Nat.mul_assoc,<-Nat.pow_add,show 32-s+s=32 by omega];omega
 rw[e,Nat.add_mul_div_left _ _ (Nat.two_pow_pos _)];have:=Ns (d:=d3) (s:=s) (by omega)
 rw[Y4]at this;rw[this,Nat.mul_comm (2^s)];omega
theorem yY {a:List Nat} (hD:BZ a) {n s d1 d2:Nat} (hn:3<=n) (hl:a.length<=n) (h1:d1=a.getD (n-1) 0) (h2:d2=a.getD (n-2) 0) (l8:val a*2^s<4294967296^n) :
  (d1*4294967296+d2)*2^s<=18446744073709551615:=by
 obtain ⟨r,hr,hv⟩:=kC hD hn hl;rw[<-h1,<-h2]at hv;generalize a.getD (n-3) 0=d3 at *;have e:4294967296^n=4294967296^(n-3)*(4294967296*18446744073709551616):=by
  rw[show n=n-3+3 by omega,Nat.pow_add,show n-3+3-3=n-3 by omega]
 rw[e,hv]at l8;generalize 4294967296^(n-3)=p at *;have h3:p*(4294967296*((d1*4294967296+d2)*2^s))<p*(4294967296*18446744073709551616):=by
  refine Nat.lt_of_le_of_lt ?_ l8;rw[<-Nat.mul_assoc,<-Nat.mul_assoc];refine zR _ ?_;have h5:p*(4294967296*(d2+4294967296*d1))<=p*(d3+4294967296*(d2+4294967296*d1)):=Nat.mul_le_mul_left p (by omega);rw[Nat.mul_assoc,show d1*4294967296+d2=d2+4294967296*d1 by omega];omega
 have:=Nat.lt_of_mul_lt_mul_left (Nat.lt_of_mul_lt_mul_left h3)
 omega
theorem iH {k s:Nat} (hs:s<=64) (h:k*2^s<=18446744073709551615):k*2^s+2^s<=18446744073709551616:=by
 have e:18446744073709551616=2^(64-s)*2^s:=by rw[<-Nat.pow_add,show 64-s+s=64 by omega]
 have h1:k<2^(64-s):=by
  refine Nat.lt_of_mul_lt_mul_right (a:=2^s) ?_;rw[<-e];omega
 have h2:=zR (2^s) h1;rw[Nat.succ_mul,<-e]at h2;exact h2
theorem yZ {a:List Nat} (hD:BZ a) {n s:Nat} (hn:3<=n) (hl:a.length<=n) (hs:s<=31) (l8:val a*2^s<4294967296^n):val a/Z8 n s<=4611686018427387904:=by
 rw[<-yX hD hn hl hs rfl rfl rfl];have h1:=yY hD hn hl rfl rfl l8;have b3:=XD hD (n-3);have h2:=iH (show s<=64 by omega) h1;obtain ⟨_,h3,_,_⟩:=Y5 (s:=s) b3 (by omega);rw[Y4]at h3;generalize (a.getD (n-1) 0*4294967296+a.getD (n-2) 0)*2^s=T at *;generalize a.getD (n-3) 0*2^s=U at *;omega
theorem zA {V K:Nat} (hK:0<K) : ∃ e:Int,(V:Int)=(K:Int)*((V/K:Nat):Int)+e/\0<=e/\e<=K:=by
 refine ⟨((V%K:Nat):Int),?_,by omega,?_⟩
 ·have:=Nat.div_add_mod V K
  have h2:((K*(V/K)+V%K:Nat):Int)=(V:Int):=by rw[this]
  rw[<-h2];simp
 ·have:=Nat.mod_lt V hK
  omega
def cG (t:Int):Nat:=(t%4294967296).toNat
theorem uJ (t:Int):cG t<4294967296:=by unfold cG;omega
theorem lR (t:Int):(cG t:Int)=t%4294967296:=by unfold cG;omega
def WT (f g:Int):Prop:=(0<=f/\f<=2147483647 /\ -2147483647<=g/\g<=0)\/(-2147483647<=f/\f<=0/\0<=g/\g<=2147483647)
theorem Nr {f:Int} {d:Nat} (hd:d<4294967296):(0<=f->f<=2147483647->0<=f*d/\f*d<=9223372030412324865)/\(f<=0 -> -2147483647<=f->f*d<=0 /\ -9223372030412324865<=f*d):=by
 constructor
 ·intro h0 h1
  refine ⟨Int.mul_nonneg h0 (by omega),?_⟩;have:f*d<=2147483647*4294967295:=Int.mul_le_mul h1 (by omega) (by omega) (by omega)
  omega
 ·intro h0 h1
  have a1:0<=(-f)*d:=Int.mul_nonneg (by omega) (by omega);have a2:(-f)*d<=2147483647*4294967295:=Int.mul_le_mul (by omega) (by omega) (by omega) (by omega);rw[Int.neg_mul]at a1 a2;omega
theorem WT.Ue {f g:Int} (h:WT f g) {d e:Nat} (hd:d<4294967296) (he:e<4294967296):(-9223372030412324865<=f*d/\f*d<=9223372030412324865)/\(-9223372030412324865<=g*e/\g*e<=9223372030412324865) /\ -9223372030412324865<=f*d+g*e/\f*d+g*e<=9223372030412324865:=by
 obtain ⟨a1,a2⟩:=Nr (f:=f) hd;obtain ⟨b1,b2⟩:=Nr (f:=g) he;rcases h with ⟨h1,h2,h3,h4⟩|⟨h1,h2,h3,h4⟩
 ·have:=a1 h1 h2;have:=b2 h4 h3;omega
 ·have:=a2 h2 h1;have:=b1 h3 h4;omega
theorem uL {V X Y p c f g d e t:Int} (h:V+p*c=f*X+g*Y) (ht:t=f*d+c+g*e):V+p*(t%4294967296)+p*4294967296*(t/4294967296)=f*(X+p*d)+g*(Y+p*e):=by
 have h1:=Int.emod_add_mul_ediv t 4294967296;have h2:p*(t%4294967296)+p*4294967296*(t/4294967296)=p*t:=by
  rw[Int.mul_assoc,<-Int.mul_add,h1]
 have h3:p*t=f*(p*d)+p*c+g*(p*e):=by rw[ht];grind
 have h4:f*(X+p*d)=f*X+f*(p*d):=by rw[Int.mul_add]
 have h5:g*(Y+p*e)=g*Y+g*(p*e):=by rw[Int.mul_add]
 omega
theorem Zq {V P:Nat} {c R:Int} (hV:V<P) (h:(V:Int)+P*c=R) (h0:0<=R) (h1:R<P):(V:Int)=R:=by
 have hc:c=0:=by
  rcases Int.lt_trichotomy c 0 with hc|hc|hc
  ·have:(P:Int)*c<=P*(-1):=Int.mul_le_mul_of_nonneg_left (by omega) (by omega)
   omega
  ·exact hc
  ·have:(P:Int)*1<=P*c:=Int.mul_le_mul_of_nonneg_left (by omega) (by omega)
   omega
 subst hc;omega
theorem dF (x y:Nat):Nat.gcd y (x%y)=Nat.gcd x y:=by
 rw[Nat.gcd_comm x y,Nat.gcd_rec y x];exact Nat.gcd_comm _ _
def zv (neg:Bool) (m:List Nat):Int:=bif neg then -(val m:Int) else (val m:Int)
abbrev rZ (q neg:Bool) (m:List Nat):List AV:=[.bool neg,.sl q (m.map BG)]
abbrev eZ (z:Int):List AV:=rZ false (decide (z<0)) (dg z.natAbs)
theorem HM (neg:Bool) (m:List Nat):(zv neg m).natAbs=val m:=by cases neg<;>simp [zv]
theorem IG (z:Int):zv (decide (z<0)) (dg z.natAbs)=z:=by
 unfold zv;rw[CX];by_cases h:z<0
 ·simp [h];omega
 ·simp [h];omega
def Sm (n:Nat) (m:List Nat):Prop:=BZ m/\m.length<=n
theorem Sm.dg {n V:Nat} (h:V<4294967296^n):Sm n (dg V):=⟨GA V,VD.2 h⟩
theorem Sm.le {n n':Nat} {m:List Nat} (h:Sm n m) (hn:n<=n'):Sm n' m:=⟨h.1,by have:=h.2;omega⟩
theorem Sm.val {n:Nat} {m:List Nat} (h:Sm n m):val m<4294967296^n:=Nat.lt_of_lt_of_le (HS h.1) (Nat.pow_le_pow_right (by omega) h.2)
theorem Sm.wj {n:Nat} {m:List Nat} (h:Sm n m):Sm n (Go.e6.dg (Go.e6.val m)):=Sm.dg h.val
theorem G6 {z:Int} {b:Bool} {n:Nat} (h1:n=z.natAbs) (h2:b=decide (z<0)):AV.agg [.bool b,.sl false ((dg n).map BG)] = .agg (eZ z):=by rw[h1,h2]
theorem FQ (z:Int):B4 (.agg (eZ z)):=by
 simp only[B4,DN,and_true,true_and];exact EI _
theorem P5 {z:Int} (h:z<0):true=decide (z<0):=by simp [h]
theorem H0 {z:Int} (h:0<=z):false=decide (z<0):=by simp;omega
theorem Lu (n:Nat):Sm n []:=⟨ZU,Nat.zero_le _⟩
theorem qN {n d:Nat} (hn:1<=n) (hd:d<4294967296):Sm n [d]:=⟨LE hd,hn⟩
theorem Pq (b:Bool):zv b []=0:=by cases b<;>rfl
theorem Sm.low {n V:Nat} {m:List Nat} (h:Sm n m) (hV:V<=Go.e6.val m):Sm n (Go.e6.dg V):=Sm.dg (Nat.lt_of_le_of_lt hV h.val)
theorem Sm.mul {n k:Nat} {a b:List Nat} (ha:Sm n a) (hb:Sm k b) {V:Nat} (hV:V=Go.e6.val a*Go.e6.val b):Sm (n+k) (Go.e6.dg V):=by
 refine Sm.dg ?_;rw[hV,Nat.pow_add];exact Nat.mul_lt_mul_of_le_of_lt (Nat.le_of_lt ha.val) hb.val (Nat.pow_pos (by omega))
theorem Sm.add {n:Nat} {a b:List Nat} (ha:Sm n a) (hb:Sm n b) {V:Nat} (hV:V<=Go.e6.val a+Go.e6.val b):Sm (n+1) (Go.e6.dg V):=by
 refine Sm.dg ?_;have h1:=ha.val;have h2:=hb.val;rw[Nat.pow_succ];omega
theorem KB (V:Nat):(dg V).length=0↔V=0:=by rw[List.length_eq_zero_iff,mH]
theorem G1 (m:List Nat):zv false m=(val m:Int):=rfl
theorem U2 (m:List Nat):zv true m = -(val m:Int):=rfl
def u6 (z:Int):Int:=if z<0 then -1 else if 0<z then 1 else 0
theorem jE {z:Int} (h:z<0) : -1=u6 z:=by unfold u6;rw[if_pos h]
theorem qL {z:Int} (h:0<z):1=u6 z:=by unfold u6;rw[if_neg (by omega),if_pos h]
theorem jH {z:Int} (h:z=0):0=u6 z:=by unfold u6;rw[if_neg (by omega),if_neg (by omega)]
theorem Pj {n:Nat} (h:n<18446744073709551616):val [n%4294967296,n/4294967296]=n:=(by simp [val];omega)
abbrev rQ (q1 q2 n:Bool) (m d:List Nat):List AV:=[.bool n,.sl q1 (m.map BG),.sl q2 (d.map BG)]
abbrev eQ (x:Rat):List AV:=rQ false false (decide (x.num<0)) (dg x.num.natAbs) (dg x.den)
def qv (n:Bool) (m d:List Nat):Rat:=mkRat (zv n m) (val d)
theorem IV (x:Rat):qv (decide (x.num<0)) (dg x.num.natAbs) (dg x.den)=x:=by
 unfold qv;rw[IG,CX,Rat.mkRat_self]
theorem yB {d:Nat} (z:Nat) (hd:d≠0):0<Nat.gcd d z:=Nat.gcd_pos_of_pos_left z (by omega)
theorem pJ {z:Int} {d:Nat} (hd:d≠0):(mkRat z d).num.natAbs=z.natAbs/Nat.gcd d z.natAbs/\(mkRat z d).den=d/Nat.gcd d z.natAbs/\decide ((mkRat z d).num<0)=decide (z<0):=by
 have hg:=yB z.natAbs hd;have h1:=Rat.num_mkRat z d;have h2:=Rat.den_mkRat z d;rw[if_neg hd]at h1 h2;rw[h1,h2];obtain ⟨k,hk⟩:=Nat.gcd_dvd_right d z.natAbs;generalize hG:Nat.gcd d z.natAbs=g at *;have hz:z=(g:Int)*(z.sign*k):=by
  rw[<-Int.mul_assoc,Int.mul_comm (g:Int),Int.mul_assoc,<-Int.natCast_mul,<-hk,Int.sign_mul_natAbs]
 have e1:z/(g:Int)=z.sign*k:=by
  rw[hz,Int.mul_ediv_cancel_left _ (by omega),<-hz]
 refine ⟨?_,rfl,?_⟩
 ·rw[e1,Int.natAbs_mul,hk,Nat.mul_div_cancel_left _ hg]
  by_cases h0:z=0
  ·subst h0
   have:k=0:=by
    have h5:g*k=0:=hk.symm;rcases Nat.mul_eq_zero.1 h5 with h|h
    ·omega
    ·exact h
   subst this;simp
  ·rw[Int.natAbs_sign_of_ne_zero h0,Nat.one_mul];simp
 ·congr 1
  rw[eq_iff_iff];rw[Int.ediv_lt_iff_lt_mul (by omega),Int.zero_mul]
theorem G7 (x:Rat):B4 (.agg (eQ x)):=by
 simp only[B4,DN,and_true,true_and];exact ⟨EI _,EI _⟩
theorem cD (b w:Bool) (m d:List Nat):B4 (.agg [.bool b,.sl false (m.map BG),.sl false (d.map BG),.bool w]):=by
 simp only[B4,DN,and_true,true_and];exact ⟨EI _,EI _⟩
theorem Adv (b:Bool) (m:List Nat):B4 (.agg [.bool b,.sl false (m.map BG)]):=by
 simp only[B4,DN,and_true,true_and];exact EI _
theorem gA (b:Bool) (m d:List Nat):B4 (.agg [.bool b,.sl false (m.map BG),.sl false (d.map BG)]):=by
 simp only[B4,DN,and_true,true_and];exact ⟨EI _,EI _⟩
theorem dB (q:Bool) (l:List Nat):bF (.sl q (l.map BG)):=by
 intro e he c hc;obtain ⟨x,_,rfl⟩:=List.mem_map.1 he;simp at hc;subst hc;rfl
theorem kG {r:AV} {K:AV->Prop} (h:QG r) (hk:K (yo r)):DG r K:=⟨Or.inl h,by rw[oY h];exact hk⟩
theorem J7 {b w q1 q2:Bool} {m d:List Nat} {K:AV->Prop} (hk:K (.agg [.bool b,.sl true (m.map BG),.sl true (d.map BG),.bool w])):DG (.agg [.bool b,.sl q1 (m.map BG),.sl q2 (d.map BG),.bool w]) K:=by
 refine kG ?_ hk;intro c hc;simp only[List.mem_cons,List.not_mem_nil,or_false]at hc;rcases hc with rfl|rfl|rfl|rfl
 ·trivial
 ·exact dB _ _
 ·exact dB _ _
 ·trivial
theorem sG {b q1 q2:Bool} {m d:List Nat} {K:AV->Prop} (hk:K (.agg [.bool b,.sl true (m.map BG),.sl true (d.map BG)])):DG (.agg [.bool b,.sl q1 (m.map BG),.sl q2 (d.map BG)]) K:=by
 refine kG ?_ hk;intro c hc;simp only[List.mem_cons,List.not_mem_nil,or_false]at hc;rcases hc with rfl|rfl|rfl
 ·trivial
 ·exact dB _ _
 ·exact dB _ _
theorem WZ {b q1:Bool} {m:List Nat} {K:AV->Prop} (hk:K (.agg [.bool b,.sl true (m.map BG)])):DG (.agg [.bool b,.sl q1 (m.map BG)]) K:=by
 refine kG ?_ hk;intro c hc;simp only[List.mem_cons,List.not_mem_nil,or_false]at hc;rcases hc with rfl|rfl
 ·trivial
 ·exact dB _ _
theorem iF {a b:Int} {d e:Nat} (hd:d≠0) (he:e≠0):mkRat a d+mkRat b e=mkRat (a*e+b*d) (d*e):=Rat.mkRat_add_mkRat a b hd he
theorem zY {a b:Int} {d:Nat} (hd:d≠0):mkRat a d+mkRat b d=mkRat (a+b) d:=by
 rw[iF hd hd,<-Int.add_mul,Rat.mkRat_mul_right hd]
theorem pH (a b:Int) (d e:Nat):mkRat a d*mkRat b e=mkRat (a*b) (d*e):=Rat.mkRat_mul_mkRat a b d e
theorem Nv (a:Int):mkRat a 1=(a:Rat):=by
 have h:=Rat.mkRat_self (a:Rat);rw[Rat.num_intCast,Rat.den_intCast]at h;exact h
theorem pI {z:Int} {d:Nat} (hd:d≠0):mkRat z d=0↔z=0:=Rat.mkRat_eq_zero hd
theorem Nw {z:Int} {d:Nat} (hd:d≠0):u6 (mkRat z d).num=u6 z:=by
 obtain ⟨_,_,h⟩:=pJ (z:=z) hd;have h0:(mkRat z d).num=0↔z=0:=by rw[Rat.num_eq_zero,pI hd]
 have h1:(mkRat z d).num<0↔z<0:=by simpa using h
 unfold u6;by_cases a:z<0
 ·rw[if_pos a,if_pos (h1.2 a)]
 ·rw[if_neg a,if_neg (λ h=>a (h1.1 h))]
  by_cases b:z=0
  ·rw[if_neg (by omega),if_neg (by have:=h0.2 b;omega)]
  ·rw[if_pos (by omega),if_pos (by have:=mt h0.1 b;have:=mt h1.1 a;omega)]
theorem AhC {a b:Int} {d e:Nat} (hd:d≠0) (he:e≠0) (hb:b≠0):mkRat a d/mkRat b e=mkRat (b.sign*(a*e)) (d*b.natAbs):=by
 have hbn:b.natAbs≠0:=by omega
 have h1:mkRat b e≠0:=λ h=>hb ((pI he).1 h)
 have key:mkRat (b.sign*(a*e)) (d*b.natAbs)*mkRat b e=mkRat a d:=by
  rw[pH];have e1:b.sign*(a*e)*b=a*((b.natAbs*e:Nat):Int):=by
   have:=Int.sign_mul_self b
   rw[Int.natCast_mul,<-this];grind
  rw[e1,show d*b.natAbs*e=d*(b.natAbs*e) by rw[Nat.mul_assoc]];exact Rat.mkRat_mul_right (Nat.mul_ne_zero hbn he)
 rw[<-key,Rat.mul_div_cancel h1]
theorem Pr {x y:Int} (hy:y≠0):zv (decide (x<0) != decide (y<0)) (dg x.natAbs)=y.sign*x:=by
 unfold zv;rw[CX];rcases Int.lt_or_gt_of_ne hy with h|h
 ·rw[Int.sign_eq_neg_one_of_neg h]
  by_cases hx:x<0
  ·simp [hx,h];omega
  ·simp [hx,h];omega
 ·rw[Int.sign_eq_one_of_pos h]
  by_cases hx:x<0
  ·simp [hx,show ¬ y<0 by omega];omega
  ·simp [hx,show ¬ y<0 by omega];omega
def Bt (k:Nat) (x:Rat):Prop:=x.num.natAbs<=2^k/\x.den<=2^k
theorem Bt.le {k l:Nat} {x:Rat} (h:Bt k x) (hl:k<=l):Bt l x:=by
 have:=Nat.pow_le_pow_right (show 0<2 by omega) hl
 exact ⟨Nat.le_trans h.1 this,Nat.le_trans h.2 this⟩
theorem Bt.mk {k:Nat} {z:Int} {d:Nat} (hz:z.natAbs<=2^k) (hd:d<=2^k):Bt k (mkRat z d):=by
 by_cases h0:d=0
 ·subst h0
  rw[Rat.mkRat_zero];exact ⟨by simp,by simp;exact Nat.one_le_two_pow⟩
 ·obtain ⟨e1,e2,_⟩:=pJ (z:=z) h0
  unfold Bt;rw[e1,e2];exact ⟨Nat.le_trans (Nat.div_le_self _ _) hz,Nat.le_trans (Nat.div_le_self _ _) hd⟩
theorem Bt.add {k l:Nat} {x y:Rat} (hx:Bt k x) (hy:Bt l y):Bt (k+l+1) (x+y):=by
 rw[Rat.add_def'];refine Bt.mk ?_ ?_
 ·have h1:(x.num*y.den).natAbs<=2^k*2^l:=by rw[Int.natAbs_mul,Int.natAbs_natCast];exact Nat.mul_le_mul hx.1 hy.2
  have h2:(y.num*x.den).natAbs<=2^l*2^k:=by rw[Int.natAbs_mul,Int.natAbs_natCast];exact Nat.mul_le_mul hy.1 hx.2
  rw[Nat.mul_comm (2^l)]at h2;rw[Nat.pow_succ,Nat.pow_add];have h3:=Int.natAbs_add_le (x.num*y.den) (y.num*x.den);omega
 ·rw[Nat.pow_succ,Nat.pow_add]
  have:=Nat.mul_le_mul hx.2 hy.2
  omega
theorem Bt.mul {k l:Nat} {x y:Rat} (hx:Bt k x) (hy:Bt l y):Bt (k+l) (x*y):=by
 rw[Rat.mul_def'];refine Bt.mk ?_ ?_
 ·rw[Int.natAbs_mul,Nat.pow_add];exact Nat.mul_le_mul hx.1 hy.1
 ·rw[Nat.pow_add];exact Nat.mul_le_mul hx.2 hy.2
theorem Bt.zero (k:Nat):Bt k 0:=⟨by simp,by simp;exact Nat.one_le_two_pow⟩
theorem Bt.one (k:Nat):Bt k 1:=⟨by simp;exact Nat.one_le_two_pow,by simp;exact Nat.one_le_two_pow⟩
theorem Bt.Rc {k n:Nat} {x:Rat} (h:Bt k x) (hn:k<32*n):Sm n (dg x.num.natAbs)/\Sm n (dg x.den):=by
 have e:2^k<4294967296^n:=by
  rw[show 4294967296=2^32 from rfl,<-Nat.pow_mul];exact (Nat.pow_lt_pow_iff_right (by omega)).2 hn
 exact ⟨Sm.dg (Nat.lt_of_le_of_lt h.1 e),Sm.dg (Nat.lt_of_le_of_lt h.2 e)⟩
def Bs (k:Nat) (l:List Rat):Prop := ∀ x∈l,Bt k x
theorem Bs.at {k:Nat} {l:List Rat} (h:Bs k l) {i:Nat} {x:Rat} (hx:l[i]? = some x):Bt k x:=h x (zM hx)
def mM:List Rat->List Rat->Rat
 | x::xs,y::ys=>x*y+mM xs ys
 | _,_=>0
structure EV where
 a:List (List Rat)
 b:List Rat
 c:List Rat
 d:Rat
structure EV.Ok (S:EV) (n k:Nat):Prop where
 la:S.a.length=n
 lr : ∀ r∈S.a,r.length=n
 lb:S.b.length=n
 lc:S.c.length=n
 ba : ∀ r∈S.a,Bs k r
 bb:Bs k S.b
 bc:Bs k S.c
 bd:Bt k S.d
def F4 (n:Nat) (j:Int):List Rat:=(List.range n).map λ i:Nat=>if (i:Int)=j then 1 else 0
theorem aT (n:Nat) (j:Int):(F4 n j).length=n:=by simp [F4]
theorem Ajh (n:Nat):F4 n (-1)=List.replicate n 0:=by
 refine List.ext_getElem? λ i => ?_
 simp only[F4,List.getElem?_map,List.getElem?_replicate,List.getElem?_range];by_cases h:i<n
 ·rw[List.getElem?_range h,if_pos h]
  simp
 ·rw[List.getElem?_eq_none (by simp;omega),if_neg h];rfl
abbrev eO:Option Rat->List AV
 | none=>[.bool false,.nil,.nil]
 | some x=>eQ x
def Q6 (l:List Rat) (m:Nat):List (Option Rat):=l.map some++List.replicate (m-l.length) none
theorem xQ (m:Nat):Q6 [] m=List.replicate m none:=by simp [Q6]
theorem xP {l:List Rat} {m:Nat} (h:l.length<=m):(Q6 l m).length=m:=by simp [Q6];omega
theorem xR {l:List Rat} {m:Nat} {x:Rat} (h:l.length<m):(Q6 l m).set l.length (some x)=Q6 (l++[x]) m:=by
 unfold Q6;have e:m-l.length=(m-(l++[x]).length)+1:=by simp;omega
 rw[e,List.replicate_succ,List.set_append_right _ _ (by simp)];simp
theorem xO {l:List Rat} {m:Nat} (h:l.length=m):(Q6 l m).map eO=l.map eQ:=by
 unfold Q6;rw[h,Nat.sub_self];simp [Function.comp_def]
abbrev eS (S:EV):List AV:=[.sl false (S.a.map λ r=>[AV.sl false (r.map eQ)]),.sl false (S.b.map eQ),.sl false (S.c.map eQ)]++eQ S.d
theorem YA (l:List Rat):GF (l.map eQ):=YB (λ x=>by simp only[DN,B4,and_true,true_and];exact ⟨EI _,EI _⟩) l
theorem uC (S:EV):B4 (.agg (eS S)):=by
 have h:GF (S.a.map λ r=>[AV.sl false (r.map eQ)]):=YB (λ r=>by simp only[DN,B4,and_true,true_and];exact YA r) S.a;simp only[B4,List.cons_append,List.nil_append,DN,and_true,true_and];exact ⟨h,YA _,YA _,EI _,EI _⟩
def aJ (N:Nat):List PM->Bool
 | []=>true
 | .tmp t::r=>Nat.blt t N&&aJ N r
 | .cell t _ _::r=>Nat.blt t N&&aJ N r
theorem qE {N:Nat} {s s':St} (ho:s.own=s'.own) (nu : ∀ j,j<N->g6 s'.tm j=g6 s.tm j) : ∀ {res:List PM},aJ N res=true->res.mapM (HY s)=res.mapM (HY s')
 | [],_=>rfl
 | .tmp t::r,h=>by
  simp only[aJ,Bool.and_eq_true]at h;have:=qE ho nu h.2
  simp only[List.mapM_cons,HY,nu t (X7.1 h.1),this]
 | .cell t agg n::r,h=>by
  simp only[aJ,Bool.and_eq_true]at h;have:=qE ho nu h.2
  simp only[List.mapM_cons,HY,nu t (X7.1 h.1),this,ho]
def Wc (N:Nat) (fn:AFn) (tm:Tm) (K:AV->Mem->Prop) (ch:Tm) (M':Mem):Prop:=gh N ch=tm/\iS ch M' fn.res (λ rs=>Uf rs λ v=>K v M')
theorem FN {L:Lib} {f:Nat} {fn:AFn} {vs:List AV} {tm:Tm} {M:Mem} {K:AV->Mem->Prop} (N:Nat) (hL:L f=some fn) (hp:Nat.beq vs.length fn.cb=true) (hN:(Nat.ble fn.cb N&&(OS N fn.body&&aJ N fn.res))=true)
  (h:AH L [.code fn.body] (D7 0 vs++J0 N tm) M (Wc N fn tm K)):CG L f vs tm M K:=by
 intro σ own hs;simp only[Bool.and_eq_true]at hN;obtain ⟨n1,n2,n3⟩:=hN;have n1:=Nat.le_of_ble_eq_true n1;have hp:vs.length=fn.cb:=Nat.eq_of_beq_eq_true hp;have Ks:RX σ (D7 0 vs++J0 N tm) M ⟨RP (CI σ) (D7 0 vs++J0 N tm),own⟩:=⟨λ j=>Or.inr (by rw[P9];exact QA (QT σ) j _),hs⟩;obtain ⟨n,c,s',hr,σ',ch,M',hR,hg,oy⟩:=h σ _ Ks;have Jp:Gh N (RP (CI σ) (J0 N tm)) (D7 0 (vs.map (CI σ))) (RP (CI σ) (D7 0 vs++J0 N tm)):=by
  constructor
  ·intro j hj
   rw[oQ,QA (QT σ),QA (QT σ)];rcases eK j (J0 N tm) (D7 0 vs) with ⟨_,e⟩|⟨hn,e⟩
   ·rw[e]
   ·rw[e,rL hj,rJ j 0 vs hn]
  ·intro j hj
   rw[QA (QT σ),QA (QT σ)];rcases eK j (J0 N tm) (D7 0 vs) with ⟨hn,e⟩|⟨_,e⟩
   ·have:=oP j 0 vs hn
    omega
   ·rw[e]
 obtain ⟨s,r1,r2,r3⟩:=O4 n (by simp [XG,n2]) Jp hr;obtain ⟨rs,i1,i2,i3⟩:=qD hR oy;rw[<-qE (s:=s) r2.symm r3.lo n3,i3]at i1;have key : ∃ r,OG (rs.map (C0 σ'))=CI σ' r/\K r M':=by
  match rs,i2,i3 with
  | [],h,_=>exact ⟨.g8 [],rfl,h⟩
  | [v],h,e =>
   simp only[List.map_cons,List.map_nil,List.cons.injEq,and_true]at e;exact ⟨v,by simp only[List.map_cons,List.map_nil,OG];exact e.symm,h⟩
  | a::b::l,h,_=>exact ⟨.g8 (a::b::l),rfl,h⟩
 obtain ⟨r,k1,k2⟩:=key;refine ⟨r,s.own,σ',M',J2.intro hL (by simpa using hp) ⟨n,c,s,r1,?_,rfl⟩,?_,?_,k2⟩
 ·rw[i1,Option.map_some,k1]
 ·rw[<-r2];exact hR.sat
 ·intro j
  have e1:tg tm j=tg ch (N+j):=by rw[P9,P9,<-hg,rI]
  rcases hR.tm (N+j) with e|e
  ·rw[e1,e];rfl
  ·rw[e1,<-e,r3.hi (N+j) (by omega),QA (QT σ),rK,<-P9,e1]
def IC (vals:List Rat):List (Int × Int)->Rat
 | []=>0
 | t::ts=>(t.2:Rat)*vals.getD t.1.toNat 0+IC vals ts
theorem Qk (vals:List Rat) (t:Int × Int) : ∀ ts,IC vals (ts++[t])=IC vals ts+(t.2:Rat)*vals.getD t.1.toNat 0
 | []=>by simp only[List.nil_append,IC];grind
 | u::ts=>by simp only[List.cons_append,IC];rw[Qk vals t ts];grind
theorem Aja {vals:List Rat} {ts:List (Int × Int)} {i:Nat} {t:Int × Int} (h:ts[i]? = some t):IC vals (ts.take (i+1))=IC vals (ts.take i)+(t.2:Rat)*vals.getD t.1.toNat 0:=by
 rw[List.take_add_one,h,Option.toList_some,Qk]
def IP (u:Rat) (ex:Int):Nat->List Rat->List (List (Int × Int))->List Rat
 | _,vals,[]=>vals
 | k,vals,ts::r=>IP u ex (k+1) (vals++[IC vals ts/u+(if (k:Int)=ex then 1 else 0)]) r
theorem nU (u:Rat) (ex:Int) : ∀ (k:Nat) (vals:List Rat) (l:List (List (Int × Int))),(IP u ex k vals l).length=vals.length+l.length
 | _,_,[]=>rfl
 | k,vals,ts::r=>by rw[IP,nU u ex (k+1)];simp;omega
theorem Bs.getD {k:Nat} {l:List Rat} (h:Bs k l) (i:Nat):Bt k (l.getD i 0):=by
 rw[List.getD_eq_getElem?_getD];cases e:l[i]? with
 | none=>exact Bt.zero k
 | some x=>exact h.at e
theorem Bs.sum {k j:Nat} {vals:List Rat} (hv:Bs k vals) : ∀ (ts:List (Int × Int)),(∀ t∈ts,Bt j ((t.2:Int):Rat))->Bt (ts.length*(j+k+1)) (IC vals ts)
 | [],_=>Bt.zero _
 | t::ts,h=>by
  have h1:=(h t (by simp)).mul (hv.getD t.1.toNat);have h2:=Bs.sum hv ts (λ u hu=>h u (by simp [hu]));refine (h1.add h2).le ?_;rw[List.length_cons,Nat.succ_mul];omega
def gS:Nat->Nat
 | 0=>0
 | i+1=>5*gS i+150
theorem Ags (i:Nat):gS i<=gS (i+1):=by rw[gS];omega
theorem Bt.ofInt {k:Nat} {z:Int} (h:z.natAbs<=2^k):Bt k ((z:Int):Rat):=⟨by rw[Rat.num_intCast];exact h,by rw[Rat.den_intCast];exact Nat.one_le_two_pow⟩
theorem Bt.Dw {k j:Nat} {x:Rat} {z:Int} (h:Bt k x) (hz:1<=z) (hj:z.natAbs<=2^j):Bt (k+j) (x/(z:Rat)):=by
 obtain ⟨d,rfl⟩:=Int.eq_ofNat_of_zero_le (show 0<=z by omega);have e:x/((d:Int):Rat)=x*mkRat 1 d:=by
  rw[Rat.div_def,Rat.mkRat_eq_div,Rat.div_def];congr 1;rw[show ((1:Int):Rat)=1 from rfl,Rat.one_mul];rfl
 rw[e];exact h.mul (Bt.mk (by simp;exact Nat.one_le_two_pow) (by simpa using hj))
structure bM (l:List (List (Int × Int))):Prop where
 len : ∀ ts∈l,ts.length<=5
 cf : ∀ ts∈l,∀ t∈ts,t.2.natAbs<=2^24
theorem AhO {ts:List (Int × Int)} {vals:List Rat} {k:Nat} {z:Int} (h1:ts.length<=5) (h2 : ∀ t∈ts,t.2.natAbs<=2^24) (hv:Bs k vals) (hz:1<=z) (rn:z.natAbs<=2^24) (b:Bool):Bt (5*k+150) (IC vals ts/(z:Rat)+(if b=true then 1 else 0)):=by
 have a1:=hv.sum ts (j:=24) (λ t ht=>Bt.ofInt (h2 t ht));have a2:Bt (5*(24+k+1)) (IC vals ts):=a1.le (zR _ h1);have a3:=a2.Dw hz rn;have a4:Bt 0 (if b=true then (1:Rat) else 0):=by cases b<;>first|exact Bt.zero 0|exact Bt.one 0
 exact (a3.add a4).le (by omega)
theorem nT {z ex:Int} (hz:1<=z) (rn:z.natAbs<=2^24) : ∀ (l:List (List (Int × Int))) (k:Nat) (vals:List Rat),bM l->Bs (gS k) vals->Bs (gS (k+l.length)) (IP (z:Rat) ex k vals l)
 | [],k,vals,_,hv=>hv
 | ts::l,k,vals,h,hv=>by
  have h1:=AhO (h.len ts (by simp)) (h.cf ts (by simp)) hv hz rn (decide ((k:Int)=ex));simp only[decide_eq_true_eq]at h1;rw[IP,List.length_cons,show k+(l.length+1)=k+1+l.length by omega];refine nT hz rn l (k+1) _ ⟨λ t ht=>h.len t (by simp [ht]),λ t ht=>h.cf t (by simp [ht])⟩ ?_;intro x hx;rcases List.mem_append.1 hx with hx|hx
  ·exact (hv x hx).le (Ags k)
  ·simp only[List.mem_singleton]at hx
   rw[hx];exact h1
theorem Agf (u:Rat) (ex:Int) (vals:List Rat) (l:List (List (Int × Int))) (i:Nat) (ts:List (Int × Int)) (h:l[i]? = some ts):IP u ex 0 vals (l.take (i+1))=IP u ex 0 vals (l.take i)++[IC (IP u ex 0 vals (l.take i)) ts/u+(if (i:Int)=ex then 1 else 0)]:=by
 have key : ∀ (l:List (List (Int × Int))) (k:Nat) (vals:List Rat) (ts:List (Int × Int)),IP u ex k vals (l++[ts])=IP u ex k vals l++[IC (IP u ex k vals l) ts/u+(if ((k+l.length:Nat):Int)=ex then 1 else 0)]:=by
  intro l;induction l with
  | nil=>intro k vals ts;simp [IP]
  | cons a l ih =>
   intro k vals ts;rw[List.cons_append,IP,ih,IP,List.length_cons,show k+1+l.length=k+(l.length+1) by omega]
 have hi:=(zS h).1;rw[List.take_add_one,h,Option.toList_some,key,List.length_take,Nat.min_eq_left (by omega),Nat.zero_add]
theorem Ob (σ:IY) (k:Nat) : ∀ (n i:Nat),DE σ k i (List.replicate n none)=List.replicate n [.nil]
 | 0,_=>rfl
 | n+1,i=>by
  rw[List.replicate_succ,List.replicate_succ];show [AV.nil]::DE σ k (i+1) (List.replicate n none)=_;rw[Ob σ k n (i+1)]
theorem Ux {L:Lib} {kk:List It} {tm:Tm} {M:Mem} {Q:Tm->Mem->Prop} (k s n:Nat) (e:c9 M k=some (s,.mx (List.replicate n none))) (h:AH L kk tm ((k,s,.rw 1 (List.replicate n [.nil]))::M) Q):AH L kk tm M Q:=by
 intro σ st hr;have hg : ∀ j t c,c8 ((k,s,.rw 1 (List.replicate n [.nil]))::M) j t=some c -> ∃ c0,c8 M j t=some c0/\c0.e7 σ j=c.e7 σ j:=by
  intro j t c g;by_cases hj:j=k
  ·subst hj
   cases t with
   | zero =>
    have h1:c9 ((j,s,B6.rw 1 (List.replicate n [.nil]))::M) j=some (s,.rw 1 (List.replicate n [.nil])):=by simp [c9]
    simp only[c8,h1,Option.some.injEq]at g;subst g;refine ⟨.mx (List.replicate n none),by simp only[c8,e],?_⟩;simp only[B6.e7,Ob]
   | succ i =>
    have h1:c9 ((j,s,B6.rw 1 (List.replicate n [.nil]))::M) j=some (s,.rw 1 (List.replicate n [.nil])):=by simp [c9]
    simp only[c8,h1]at g;cases g
  ·have h1:c9 ((k,s,B6.rw 1 (List.replicate n [.nil]))::M) j=c9 M j:=by
    have hb:Nat.beq j k=false:=by
     cases zm:Nat.beq j k with
     | false=>rfl
     | true=>exact absurd (Nat.eq_of_beq_eq_true zm) hj
    simp only[c9,hb,cond_false]
   refine ⟨c,?_,rfl⟩;simp only[c8,h1]at g ⊢;exact g
 refine h σ st ⟨hr.tm,⟨?_,?_,?_,?_,?_⟩⟩
 ·intro j s' c g
  by_cases hj:j=k
  ·subst hj
   have h1:c9 ((j,s,B6.rw 1 (List.replicate n [.nil]))::M) j=some (s,.rw 1 (List.replicate n [.nil])):=by simp [c9]
   rw[h1]at g;simp only[Option.some.injEq,Prod.mk.injEq]at g;obtain ⟨rfl,_⟩:=g;exact hr.sat.site _ _ _ e
  ·have h1:c9 ((k,s,B6.rw 1 (List.replicate n [.nil]))::M) j=c9 M j:=by
    have hb:Nat.beq j k=false:=by
     cases zm:Nat.beq j k with
     | false=>rfl
     | true=>exact absurd (Nat.eq_of_beq_eq_true zm) hj
    simp only[c9,hb,cond_false]
   rw[h1]at g;exact hr.sat.site _ _ _ g
 ·intro j t c g
  obtain ⟨c0,q1,q2⟩:=hg j t c g;rw[<-q2];exact hr.sat.e7 _ _ _ q1
 ·intro j t c g
  obtain ⟨c0,q1,_⟩:=hg j t c g;exact hr.sat.old _ _ _ q1
 ·intro j t j' t' c c' g g' hσ
  obtain ⟨c0,q1,_⟩:=hg j t c g;obtain ⟨c1,q2,_⟩:=hg j' t' c' g';exact hr.sat.inj _ _ _ _ _ _ q1 q2 hσ
 ·intro j t c g hw
  cases t with
  | zero =>
   by_cases hj:j=k
   ·subst hj;exact hr.sat.low _ _ _ (GY e) rfl
   ·rw[RT hj]at g;exact hr.sat.low _ _ _ g hw
  | succ t =>
   obtain ⟨c0,q1,_⟩:=hg _ _ _ g;exact hr.sat.low _ _ _ q1 (Nz q1)
def mvQ (m:List (List Rat)) (b:List Rat):List Rat:=m.map λ r=>mM r b
def Ms (k:Nat) (m:List (List Rat)):Prop := ∀ r∈m,Bs k r
def wQ (S:EV):Nat->List Rat
 | 0=>S.b
 | j+1=>mvQ S.a (wQ S j)
def conv (A h:Nat->Rat) (K:Nat):Nat->Rat
 | 0=>0
 | a+1=>conv A h K a+A a*h (K-a)
end Go.e6

namespace Go.e6
theorem Bt.Lj {k:Nat} {x:Rat} (h:Bt k x):Bt k (-x):=⟨by rw[Rat.neg_num,Int.natAbs_neg];exact h.1,by rw[Rat.neg_den];exact h.2⟩
section
variable {m0 m:List (List Rat)} {K W Apd c:Nat} {P:List Nat} {odd:Bool} {l:Rat}
end
end Go.e6

namespace Go.e6
structure Pt where
 x:Rat
 y:Rat
 w:Rat
def Ai9 (g:List Pt) (f:Pt->Rat):Rat:=g.foldl (λ s p=>s+f p) 0
def rhs (g:List Pt) (k:Nat):Rat:=Ai9 g λ p=>p.w*p.x^k*p.y
end Go.e6

namespace Go.e6
open F
attribute [local irreducible] AH A8 BT A5 EW BJ CS CR EU DK EE II C8 B5 DB FG AP CG BF pw HE FL HO HG HN G2 G5 DG FF
variable {L:Lib}
set_option maxHeartbeats 4000000
theorem PQ (l:List Nat):B4 (.sl false (l.map BG)):=by
 simp only[B4,true_and];exact EI l
theorem tF {M:Mem} {v:AV} {ky t z off len s:Nat} {l:List Nat} (hv:v = .row ky t z off len) (h:c9 M ky=some (s,.rw 1 (l.map BG))):X6 M v=none:=by
 subst hv;unfold X6;split
 ·rename_i e
  simp only[AV.row.injEq]at e;obtain ⟨rfl,_⟩:=e;rw[h];cases l with
  | nil=>rfl
  | cons a l=>cases l<;>rfl
 ·rfl
theorem JZ (N:a8 L) (l:List Nat) (q:Bool) (hD:BZ l) (hl:l.length<=1099511627776):Ev L 101 [.sl q (l.map BG)] (.sl false ((dg (val l)).map BG)):=by
 refine Ev.x N.N1 rfl rfl ?_;(repeat' ((first|apply BR|apply A7)<;>conv=>whnf))
 refine HC (λ n=>n) (λ(n:Nat)=>n<=l.length /\ ∀ i,n<=i->i<l.length->l[i]? = some 0) (λ n=>[(3,.int .i64 n)]) (λ_=>[]) l.length ⟨Nat.le_refl _,λ i h1 h2=>by omega⟩ ?_;intro n ⟨p1,p2⟩ ih;rcases n with _|n
 ·have hv:=JX hD p1 p2 (Or.inl rfl)
  rw[<-hv];clear ih;(repeat' ((first|(apply BB<;>intro hc<;>try omega)|apply A7)<;>conv=>whnf))
  refine X3 (k:=0) (λ_=>rfl) (by omega) ?_;(conv=>whnf)
  refine LC (enc:=BG) (λ_=>rfl) (by rw[List.length_take];omega) (by rw[List.length_take];omega) ?_;(conv=>whnf)
  (repeat' ((refine GR (λ_=>rfl) rfl ?_ ?_;(first|rfl|simp))<;>conv=>whnf))
  exact BU rfl (PQ _)
 ·have e1:((n+1:Nat):Int)-1=n:=by omega
  (repeat' ((first|(apply BB<;>intro hc<;>try omega)|(apply DC;omega)|(refine W3 (by assumption) ?_ (λ e he hb => ?_);omega)|apply A7)<;>conv=>whnf))
  ·rw[e1]
   exact D0 [] (ih n (by omega) ⟨by omega,λ i h1 h2=>by
    by_cases h:i=n
    ·subst h
     rw[e1,Int.toNat_natCast]at he;rw[he];congr 1;omega
    ·exact p2 i (by omega) h2⟩)
  ·rw[e1,Int.toNat_natCast]at he
   have hv:=JX hD p1 p2 (Or.inr ⟨e,he,by omega⟩);rw[<-hv];clear ih;refine X3 (k:=n+1) (λ_=>rfl) (by omega) ?_;(conv=>whnf)
   refine LC (enc:=BG) (λ_=>rfl) (by rw[List.length_take];omega) (by rw[List.length_take];omega) ?_;(conv=>whnf)
   (repeat' ((refine GR (λ_=>rfl) rfl ?_ ?_;(first|rfl|simp))<;>conv=>whnf))
   exact BU rfl (PQ _)
theorem nH (N:a8 L) (a b:List Nat) (q1 q2:Bool) (hA:BZ a) (hB:BZ b) (la:a.length<=1099511627776) (lb:b.length<=1099511627776):Ev L 102 [.sl q1 (a.map BG),.sl q2 (b.map BG)] (.int .i64 (E4 (val a) (val b))):=by
 have t1:=λ q=>JZ N a q hA la
 have t2:=λ q=>JZ N b q hB lb
 have l1:=HH hA;have l2:=HH hB;have d1:=GA (val a);have d2:=GA (val b);refine Ev.x N.S9 rfl rfl ?_;by_cases hlen:(dg (val a)).length=(dg (val b)).length
 ·have v1:=CX (val a)
  have v2:=CX (val b);generalize dg (val a)=X at *;generalize dg (val b)=Y at *;(repeat' ((first|(apply BB<;>intro hc<;>try omega)|(apply DC;omega)|apply BR|apply A7|refine AY (t1 _) ?_|refine AY (t2 _) ?_)<;>conv=>whnf))
  refine HC (λ n=>n) (λ(n:Nat)=>n<=X.length/\X.drop n=Y.drop n) (λ n=>[(5,.int .i64 ((n:Int)-1))]) (λ_=>[]) X.length ⟨Nat.le_refl _,by rw[List.drop_of_length_le (Nat.le_refl _),List.drop_of_length_le (by omega)]⟩ ?_;intro n ⟨p1,p2⟩ ih;rcases n with _|n
  ·(repeat' ((first|(apply BB<;>intro hc<;>try omega)|apply A7)<;>conv=>whnf))
   rw[List.drop_zero,List.drop_zero]at p2;exact DY (YC (by rw[<-v1,<-v2,p2]))
  ·have e1:((n+1:Nat):Int)-1=n:=by omega
   rw[e1];obtain ⟨x,hx⟩ : ∃ x,X[n]? = some x:=⟨_,zE (by omega)⟩;obtain ⟨y,hy⟩ : ∃ y,Y[n]? = some y:=⟨_,zE (by omega)⟩;rcases Nat.lt_trichotomy x y with h|h|h
   ·have:=jX d1 d2 hlen hx hy p2 h
    (repeat' ((first|(apply BB<;>intro hc<;>try omega)|(refine CT (by assumption) ?_ rfl ?_;omega)|apply A7)<;>conv=>whnf))
    exact DY (OU (by omega))
   ·subst h
    (repeat' ((first|(apply BB<;>intro hc<;>try omega)|(apply DC;omega)|(refine CT (by assumption) ?_ rfl ?_;omega)|apply A7)<;>conv=>whnf))
    refine C5 [] (by (conv=>whnf);exact ⟨rfl,rfl,rfl⟩) (ih n (by omega) ⟨by omega,?_⟩);obtain ⟨i1,e1⟩:=zS hx;obtain ⟨i2,e2⟩:=zS hy;rw[List.drop_eq_getElem_cons i1,List.drop_eq_getElem_cons i2,p2,e1,e2]
   ·have:=jX d2 d1 hlen.symm hy hx p2.symm h
    (repeat' ((first|(apply BB<;>intro hc<;>try omega)|(refine CT (by assumption) ?_ rfl ?_;omega)|apply A7)<;>conv=>whnf))
    exact DY (VC (by omega))
 ·rcases Nat.lt_trichotomy (dg (val a)).length (dg (val b)).length with h1|h1|h1
  ·have:=aW h1
   (repeat' ((first|(apply BB<;>intro hc<;>try omega)|apply BR|apply A7|refine AY (t1 _) ?_|refine AY (t2 _) ?_)<;>conv=>whnf))
   exact DY (OU (by omega))
  ·exact absurd h1 hlen
  ·have:=aW h1
   (repeat' ((first|(apply BB<;>intro hc<;>try omega)|apply BR|apply A7|refine AY (t1 _) ?_|refine AY (t2 _) ?_)<;>conv=>whnf))
   exact DY (VC (by omega))
theorem rO {y:List Nat} (i:Nat):val (y.take (i+1))=val (y.take i)+4294967296^i*y.getD i 0:=by
 rcases Nat.lt_or_ge i y.length with h|h
 ·rw[GD (zE h),KD (zE h)]
 ·rw[<-XF h,E9 h,E9 (by omega)];omega
theorem wO (N:a8 L) (a b:List Nat) (q1 q2:Bool) (hA:BZ a) (hB:BZ b) (la:a.length<=549755813888) (lb:b.length<=549755813888):Ev L 103 [.sl q1 (a.map BG),.sl q2 (b.map BG)] (.sl false ((dg (val a+val b)).map BG)):=by
 refine Ev.x N.S7 rfl rfl ?_;(repeat' (apply A7<;>conv=>whnf))
 refine J1 (λ i _ _=>a.length+b.length-i) (λ(i:Nat) (o:List Nat) (c:Nat)=>(i<=a.length\/i<=b.length)/\o.length=i/\BZ o/\c<=1/\val o+4294967296^i*c=val (a.take i)+val (b.take i)) (λ i o c=>[(7,.int .i64 i),(6,.int .u64 (c:Int)),(5,.row 5 0 1 0 o.length)]) (λ i o c=>[(5,5,.rw 1 (o.map BG))]) 0 [] 0 ⟨by omega,rfl,ZU,by omega,by simp [val]⟩ ?_;intro i o c ⟨p1,p2,p3,p4,p5⟩ ih;by_cases hi:i<a.length\/i<b.length
 ·have g1:=rO (y:=a) i
  have g2:=rO (y:=b) i;have k1:=XD hA i;have k2:=XD hB i;have m9 : ∀ t,t=c+a.getD i 0+b.getD i 0->val (o++[t%4294967296])+4294967296^(i+1)*(t/4294967296)=val (a.take (i+1))+val (b.take (i+1)):=λ t ht=>by
   have h3:=V8 (val o) (4294967296^i) t;rw[UT,p2,g1,g2,Nat.pow_succ];rw[h3,ht,Nat.mul_add,Nat.mul_add];omega
  by_cases h1:i<a.length
  ·obtain ⟨x,hx⟩ : ∃ x,a[i]? = some x:=⟨_,zE h1⟩
   have Aj:=hA.at hx;rw[KD hx]at m9;by_cases h2:i<b.length
   ·obtain ⟨y,hy⟩ : ∃ y,b[i]? = some y:=⟨_,zE h2⟩
    have Di:=hB.at hy;rw[KD hy]at m9;(repeat' ((first|(apply BB<;>intro hc<;>try omega)|(apply JS;omega)|(apply DL;omega)|apply JL|apply BR|(refine CT (by assumption) ?_ rfl ?_;omega)|apply FM|apply A7)<;>conv=>whnf))
    refine G3 (enc:=BG) (((c+x+y)%4294967296:Nat)) rfl rfl rfl (by omega) (by omega) ?_;(conv=>whnf)
    (repeat' ((first|(apply BS;omega)|apply IK)<;>conv=>whnf))
    refine C5 [(5,46)] (by (conv=>whnf);exact ⟨rfl,rfl,rfl⟩) (ih (i+1) (o++[(c+x+y)%4294967296]) ((c+x+y)/4294967296) (by omega) ⟨by omega,by simp;omega,p3.append (LE (by omega)),by omega,?_⟩);exact m9 (c+x+y) (by omega)
   ·rw[<-XF (show b.length<=i by omega)]at m9
    (repeat' ((first|(apply BB<;>intro hc<;>try omega)|(apply JS;omega)|(apply DL;omega)|apply JL|apply BR|(refine CT (by assumption) ?_ rfl ?_;omega)|apply FM|apply A7)<;>conv=>whnf))
    refine G3 (enc:=BG) (((c+x)%4294967296:Nat)) rfl rfl rfl (by omega) (by omega) ?_;(conv=>whnf)
    (repeat' ((first|(apply BS;omega)|apply IK)<;>conv=>whnf))
    refine C5 [(5,46)] (by (conv=>whnf);exact ⟨rfl,rfl,rfl⟩) (ih (i+1) (o++[(c+x)%4294967296]) ((c+x)/4294967296) (by omega) ⟨by omega,by simp;omega,p3.append (LE (by omega)),by omega,?_⟩);exact m9 (c+x) (by omega)
  ·obtain ⟨y,hy⟩ : ∃ y,b[i]? = some y:=⟨_,zE (by omega)⟩
   have Di:=hB.at hy;rw[KD hy,<-XF (show a.length<=i by omega)]at m9;(repeat' ((first|(apply BB<;>intro hc<;>try omega)|(apply JS;omega)|(apply DL;omega)|apply JL|apply BR|(refine CT (by assumption) ?_ rfl ?_;omega)|apply FM|apply A7)<;>conv=>whnf))
   refine G3 (enc:=BG) (((c+y)%4294967296:Nat)) rfl rfl rfl (by omega) (by omega) ?_;(conv=>whnf)
   (repeat' ((first|(apply BS;omega)|apply IK)<;>conv=>whnf))
   refine C5 [(5,46)] (by (conv=>whnf);exact ⟨rfl,rfl,rfl⟩) (ih (i+1) (o++[(c+y)%4294967296]) ((c+y)/4294967296) (by omega) ⟨by omega,by simp;omega,p3.append (LE (by omega)),by omega,?_⟩);exact m9 (c+y) (by omega)
 ·clear ih
  have hv:val (o++[c])=val a+val b:=by
   rw[E9 (by omega),E9 (by omega)]at p5;rw[UT,p2,p5]
  have hT:=λ q=>JZ N (o++[c]) q (p3.append (LE (by omega))) (by simp;omega)
  rw[hv]at hT;(repeat' ((first|(apply BB<;>intro hc<;>try omega)|(apply GP;omega)|apply BR|apply FM|apply A7)<;>conv=>whnf))
  refine G3 (enc:=BG) c rfl rfl rfl (by omega) (by omega) ?_;(conv=>whnf)
  (repeat' ((first|(refine GR (λ_=>rfl) rfl ?_ ?_;(first|rfl|simp))|refine AY (hT _) ?_)<;>conv=>whnf))
  exact BU rfl (PQ _)
theorem gE {a b:Nat} (h:b<=a):0<=E4 a b:=by unfold E4;split<;>(try split)<;>omega
theorem Aiq {V Y X p d e bw have' take w dc:Nat} (h:V+Y=X+p*bw) (h1:take=bw+e) (h2:(have'=d/\dc=0/\take<=d)\/(have'=d+4294967296/\dc=1/\d<take)) (h3:w+take=have'):V+p*w+(Y+p*e)=X+p*d+p*4294967296*dc:=by
 have h4:w+bw+e=d+4294967296*dc:=by omega
 have h5:p*(w+bw+e)=p*(d+4294967296*dc):=by rw[h4]
 rw[Nat.mul_add,Nat.mul_add,Nat.mul_add,<-Nat.mul_assoc]at h5;omega
theorem Mm (N:a8 L) (x y:List Nat) (hX:BZ x) (hY:BZ y) (lx:x.length<=549755813888) (ly:y.length<=549755813888) (hle:val y<=val x) :
  AH L [It.lp PH.l1,It.e7 0,It.code (((CP.ops PH.fw false).dr [1,5,6,7,21,53,54] []).seq CP.ret)]
  [(7,AV.int IntKind.i64 0),(6,AV.int IntKind.u64 0),(5,AV.row 101021 0 1 0 x.length),(1,AV.sl false (List.map BG y))]
  [(101021,101021,B6.rw 1 (List.map BG x))]
  (W4 PH (AV.sl false (List.map BG (dg (val x-val y))))):=by
 refine J1 (λ i _ _=>x.length-i) (λ(i:Nat) (o:List Nat) (bw:Nat)=>i<=x.length/\o.length=x.length/\BZ o/\bw<=1/\o.drop i=x.drop i/\val (o.take i)+val (y.take i)=val (x.take i)+4294967296^i*bw) (λ i o bw=>[(7,.int .i64 i),(6,.int .u64 (bw:Int))]) (λ i o bw=>[(101021,101021,.rw 1 (o.map BG))]) 0 x 0 ⟨by omega,rfl,hX,by omega,rfl,by simp [val]⟩ ?_;intro i o bw ⟨p1,p2,p3,p4,p5,p6⟩ ih;by_cases hi:i<x.length
 ·obtain ⟨d,hd⟩ : ∃ d,o[i]? = some d:=⟨_,zE (by omega)⟩
  have du:=p3.at hd;have hxi:x[i]? = some d:=by
   have e1:(o.drop i)[0]? = (x.drop i)[0]? := by rw[p5]
   simpa [hd] using e1.symm
  have g1:=GD hxi;have g2:=rO (y:=y) i;have ge:=XD hY i;have m9 : ∀ have' take w dc,take=bw+y.getD i 0->((have'=d/\dc=0/\take<=d)\/(have'=d+4294967296/\dc=1/\d<take))->w+take=have'->val ((o.set i w).take (i+1))+val (y.take (i+1))=val (x.take (i+1))+4294967296^(i+1)*dc:=λ have' take w dc a1 a2 a3=>by
   rw[JQ (by omega),g1,g2,Nat.pow_succ];exact Aiq p6 a1 a2 a3
  have ow : ∀ w,(o.set i w).drop (i+1)=x.drop (i+1):=λ w=>by
   rw[List.drop_set_of_lt (by omega)];have e1:(o.drop i).drop 1=(x.drop i).drop 1:=by rw[p5]
   simpa using e1
  by_cases hy:i<y.length
  ·obtain ⟨e,he⟩ : ∃ e,y[i]? = some e:=⟨_,zE hy⟩
   have Jj:=hY.at he;rw[KD he]at m9;by_cases l8:d<bw+e
   ·have h3:=m9 (d+4294967296) (bw+e) (d+4294967296-(bw+e)) 1 (by omega) (Or.inr ⟨rfl,rfl,l8⟩) (by omega)
    (repeat' ((first|(apply BB<;>intro hc<;>try omega)|(apply B7;omega)|(apply JS;omega)|(apply PB;omega;omega)|(apply fA;omega)|(apply DL;omega)|(apply GP;omega)|apply BR|(refine CT (by assumption) ?_ rfl ?_;omega)|refine PP (by assumption) ?_|apply A7)<;>conv=>whnf))
    refine H9 (by omega) ?_;(conv=>whnf)
    (repeat' ((first|(apply BS;omega)|fail)<;>conv=>whnf))
    exact C5 [] (by (conv=>whnf);exact ⟨rfl,rfl,rfl⟩) (ih (i+1) (o.set i (d+4294967296-(bw+e))) 1 (by omega) ⟨by omega,by simpa using p2,p3.set _ (by omega),by omega,ow _,h3⟩)
   ·have h3:=m9 d (bw+e) (d-(bw+e)) 0 (by omega) (Or.inl ⟨rfl,rfl,by omega⟩) (by omega)
    (repeat' ((first|(apply BB<;>intro hc<;>try omega)|(apply B7;omega)|(apply JS;omega)|(apply PB;omega;omega)|(apply DL;omega)|(apply GP;omega)|apply BR|(refine CT (by assumption) ?_ rfl ?_;omega)|refine PP (by assumption) ?_|apply A7)<;>conv=>whnf))
    refine H9 (by omega) ?_;(conv=>whnf)
    (repeat' ((first|(apply BS;omega)|fail)<;>conv=>whnf))
    exact C5 [] (by (conv=>whnf);exact ⟨rfl,rfl,rfl⟩) (ih (i+1) (o.set i (d-(bw+e))) 0 (by omega) ⟨by omega,by simpa using p2,p3.set _ (by omega),by omega,ow _,h3⟩)
  ·rw[<-XF (show y.length<=i by omega)]at m9
   by_cases l8:d<bw
   ·have h3:=m9 (d+4294967296) (bw) (d+4294967296-(bw)) 1 (by omega) (Or.inr ⟨rfl,rfl,l8⟩) (by omega)
    (repeat' ((first|(apply BB<;>intro hc<;>try omega)|(apply B7;omega)|(apply PB;omega;omega)|(apply fA;omega)|(apply DL;omega)|(apply GP;omega)|apply BR|refine PP (by assumption) ?_|apply A7)<;>conv=>whnf))
    refine H9 (by omega) ?_;(conv=>whnf)
    (repeat' ((first|(apply BS;omega)|fail)<;>conv=>whnf))
    exact C5 [] (by (conv=>whnf);exact ⟨rfl,rfl,rfl⟩) (ih (i+1) (o.set i (d+4294967296-(bw))) 1 (by omega) ⟨by omega,by simpa using p2,p3.set _ (by omega),by omega,ow _,h3⟩)
   ·have h3:=m9 d (bw) (d-(bw)) 0 (by omega) (Or.inl ⟨rfl,rfl,by omega⟩) (by omega)
    (repeat' ((first|(apply BB<;>intro hc<;>try omega)|(apply B7;omega)|(apply PB;omega;omega)|(apply DL;omega)|(apply GP;omega)|apply BR|refine PP (by assumption) ?_|apply A7)<;>conv=>whnf))
    refine H9 (by omega) ?_;(conv=>whnf)
    (repeat' ((first|(apply BS;omega)|fail)<;>conv=>whnf))
    exact C5 [] (by (conv=>whnf);exact ⟨rfl,rfl,rfl⟩) (ih (i+1) (o.set i (d-(bw))) 0 (by omega) ⟨by omega,by simpa using p2,p3.set _ (by omega),by omega,ow _,h3⟩)
 ·obtain rfl:i=x.length:=by omega
  clear ih;rw[E9 (by omega),E9 (Nat.le_refl _)]at p6;have h1:=HS p3;rw[p2]at h1;have h2:val (y.take x.length)<=val y:=by have:=ZC y x.length;omega
  have Cq:bw=0:=by
   rcases Nat.eq_zero_or_pos bw with h|h
   ·exact h
   ·have:bw=1:=by omega
    subst this;omega
  subst Cq;have hve:val (y.take x.length)=val y:=by
   have h3:=ZC y x.length;rcases Nat.eq_zero_or_pos (val (y.drop x.length)) with h|h
   ·rw[h]at h3;omega
   ·have h4:4294967296^x.length*1<=4294967296^x.length*val (y.drop x.length):=Nat.mul_le_mul_left _ h
    have h5:=HS hX;omega
  have hv:val o=val x-val y:=by omega
  have hT:=λ q=>JZ N o q p3 (by omega)
  rw[<-hv,<-p2];(repeat' ((first|(apply BB<;>intro hc<;>try omega)|(refine GR (λ_=>rfl) rfl ?_ ?_;(first|rfl|simp))|apply A7|refine AY (hT _) ?_)<;>conv=>whnf))
  exact BU rfl (PQ _)
theorem nI (N:a8 L) (a b:List Nat) (q1 q2:Bool) (hA:BZ a) (hB:BZ b) (la:a.length<=549755813888) (lb:b.length<=549755813888):Ev L 104 [.sl q1 (a.map BG),.sl q2 (b.map BG)] (.sl false ((dg (val a-val b)).map BG)):=by
 have m5:=λ q q'=>nH N a b q q' hA hB (by omega) (by omega)
 have t2:=λ q=>JZ N b q hB (by omega)
 refine Ev.x N.PH rfl rfl ?_;by_cases l8:val a<val b
 ·rw[<-OU (by omega)]at m5
  rw[show val a-val b=0 by omega,HP];(repeat' ((first|(apply BB<;>intro hc<;>try omega)|apply A7|refine AY (m5 _ _) ?_)<;>conv=>whnf))
  exact BU rfl (PQ [])
 ·have mz:=gE (show val b<=val a by omega)
  generalize E4 (val a) (val b)=cm at *;have d2:=GA (val b);have v2:=CX (val b);have l2:=HH hB;rw[<-v2];rw[<-v2]at l8;generalize dg (val b)=y at *;have Rr : ∀ n,a.take n=dg (val a)->val (a.take n)=val a:=λ n h=>by rw[h,CX]
  (repeat' ((first|(apply BB<;>intro hc<;>try omega)|apply A7|refine AY (m5 _ _) ?_|refine AY (t2 _) ?_)<;>conv=>whnf))
  refine OO 1000 N.N1 rfl rfl ?_;(repeat' ((first|apply BR|apply A7)<;>conv=>whnf))
  refine HC (λ n=>n) (λ(n:Nat)=>n<=a.length /\ ∀ i,n<=i->i<a.length->a[i]? = some 0) (λ n=>[(3,.int .i64 n)]) (λ_=>[]) a.length ⟨Nat.le_refl _,λ i h1 h2=>by omega⟩ ?_;intro n ⟨p1,p2⟩ ih;rcases n with _|n
  ·have hv:=Rr _ (JX hA p1 p2 (Or.inl rfl))
   clear ih;(repeat' ((first|(apply BB<;>intro hc<;>try omega)|apply A7)<;>conv=>whnf))
   refine X3 (k:=0) (λ_=>rfl) (by omega) ?_;(conv=>whnf)
   refine LC (enc:=BG) (λ_=>rfl) (by rw[List.length_take];omega) (by rw[List.length_take];omega) ?_;(conv=>whnf)
   refine ⟨rfl,_,rfl,?_⟩;(conv=>whnf)
   skip
   rw[<-hv];exact C5 [] (by (conv=>whnf);exact ⟨rfl,rfl,rfl⟩) (Mm N (a.take 0) y (hA.take _) d2 (by simp) (by omega) (by omega))
  ·have e1:((n+1:Nat):Int)-1=n:=by omega
   (repeat' ((first|(apply BB<;>intro hc<;>try omega)|(apply DC;omega)|(refine W3 (by assumption) ?_ (λ e he hb => ?_);omega)|apply A7)<;>conv=>whnf))
   ·rw[e1]
    exact D0 [] (ih n (by omega) ⟨by omega,λ i h1 h2=>by
     by_cases h:i=n
     ·subst h
      rw[e1,Int.toNat_natCast]at he;rw[he];congr 1;omega
     ·exact p2 i (by omega) h2⟩)
   ·rw[e1,Int.toNat_natCast]at he
    have hv:=Rr _ (JX hA p1 p2 (Or.inr ⟨_,he,by omega⟩));clear ih;refine X3 (k:=n+1) (λ_=>rfl) (by omega) ?_;(conv=>whnf)
    refine LC (enc:=BG) (λ_=>rfl) (by rw[List.length_take];omega) (by rw[List.length_take];omega) ?_;(conv=>whnf)
    refine ⟨rfl,_,rfl,?_⟩;(conv=>whnf)
    skip
    rw[<-hv];exact C5 [] (by (conv=>whnf);exact ⟨rfl,rfl,rfl⟩) (Mm N (a.take (n+1)) y (hA.take _) d2 (by rw[List.length_take];omega) (by omega) (by omega))
theorem AfK (N:a8 L) (x y:List Nat) (q1 q2:Bool) (hA:BZ x) (hB:BZ y) (Tg:x.length+y.length<=549755813888):Ev L 105 [.sl q1 (x.map BG),.sl q2 (y.map BG)] (.sl false ((dg (val x*val y)).map BG)):=by
 refine Ev.x N.TC rfl rfl ?_;(repeat' ((first|(apply BS;omega)|apply BR|apply A7)<;>conv=>whnf))
 refine NQ (enc:=BG) 0 (x.length+y.length+1) rfl (by omega) (by omega) ?_;(conv=>whnf)
 skip
 refine PL (λ i _=>x.length-i) (λ(i:Nat) (o:List Nat)=>i<=x.length/\o.length=x.length+y.length+1/\BZ o/\val o=val (x.take i)*val y /\ ∀ k,i+y.length<=k->k<o.length->o[k]? = some 0) (λ i o=>[(6,.int .i64 i)]) (λ i o=>[(15,15,.rw 1 (o.map BG))]) 0 (List.replicate (x.length+y.length+1) 0) ⟨by omega,by simp,PG _,by simp [val,kD],λ k h1 h2=>by simp at h2;simp [h2]⟩ ?_;intro i O ⟨p1,p2,p3,p4,p5⟩ ih;by_cases hi:i<x.length
 ·obtain ⟨d,hd⟩ : ∃ d,x[i]? = some d:=⟨_,zE hi⟩
  have du:=hA.at hd;(repeat' ((first|(apply BB<;>intro hc<;>try omega)|apply BR|apply A7)<;>conv=>whnf))
  refine J1 (λ j _ _=>y.length-j) (λ(j:Nat) (o:List Nat) (c:Nat)=>j<=y.length/\o.length=x.length+y.length+1/\BZ o/\c<4294967296/\val o+4294967296^(i+j)*c=val O+4294967296^i*(d*val (y.take j)) /\ ∀ k,i+j<=k->o[k]? = O[k]?) (λ j o c=>[(7,.int .u64 (c:Int)),(8,.int .i64 j)]) (λ j o c=>[(15,15,.rw 1 (o.map BG))]) 0 O 0 ⟨by omega,p2,p3,by omega,by simp [val],λ_ _=>rfl⟩ ?_;intro j o c ⟨r1,r2,r3,r4,r5,r6⟩ jh;have e1:((i:Int)+j).toNat=i+j:=by omega
  by_cases hj:j<y.length
  ·obtain ⟨w,hw⟩ : ∃ w,y[j]? = some w:=⟨_,zE hj⟩
   have Lb:=hB.at hw;have hm:=aE du Lb;(repeat' ((first|(apply BB<;>intro hc<;>try omega)|(apply B7;omega)|(apply BS;omega)|(apply JS;omega)|(apply V0;omega)|(apply DL;omega)|apply JL|apply BR|(refine CT (by assumption) ?_ rfl ?_;omega)|(refine sH (by assumption) ?_ (λ v hv hb => ?_);omega)|apply A7)<;>conv=>whnf))
   refine fP (i+j) (by omega) (by omega) ?_;(conv=>whnf)
   (repeat' ((first|(apply BS;omega)|apply IK)<;>conv=>whnf))
   refine C5 [] (by (conv=>whnf);exact ⟨rfl,rfl,rfl⟩) (jh (j+1) _ _ (by omega) ⟨by omega,by simpa using r2,r3.set _ (by omega),by omega,?_,?_⟩)
   ·have h1:=jY (v:=(c+(d*w+v))%4294967296) hv
    have h2:=V8 0 (4294967296^(i+j)) (c+(d*w+v));rw[GD hw,show i+(j+1)=i+j+1 by omega,Nat.pow_succ (4294967296) (i+j)];have h3:4294967296^i*(d*(val (y.take j)+4294967296^j*w))=4294967296^i*(d*val (y.take j))+4294967296^(i+j)*(d*w):=by rw[Nat.pow_add];grind
    rw[h3];generalize 4294967296^(i+j)=P at *;rw[Nat.mul_add P c,Nat.mul_add P]at h2;omega
   ·intro k hk
    rw[List.getElem?_set_ne (by omega)];exact r6 k (by omega)
  ·obtain rfl:j=y.length:=by omega
   clear jh;have hz:=r6 (i+y.length) (by omega);rw[p5 (i+y.length) (by omega) (by omega)]at hz;(repeat' ((first|(apply BB<;>intro hc<;>try omega)|(apply B7;omega)|(apply BS;omega)|(apply GP;omega)|apply BR|apply A7)<;>conv=>whnf))
   refine fP (i+y.length) (by omega) (by omega) ?_;(conv=>whnf)
   (repeat' ((first|(apply BS;omega)|fail)<;>conv=>whnf))
   refine C5 [] (by (conv=>whnf);exact ⟨rfl,rfl,rfl⟩) (ih (i+1) _ (by omega) ⟨by omega,by simpa using r2,r3.set _ (by omega),?_,?_⟩)
   ·have h1:=jY (v:=c) hz
    rw[Nat.mul_zero,Nat.add_zero]at h1;rw[h1,r5,p4,E9 (Nat.le_refl _),GD hd,Nat.add_mul,Nat.mul_assoc]
   ·intro k h1 h2
    rw[List.length_set]at h2;rw[List.getElem?_set_ne (by omega),r6 k (by omega)];exact p5 k (by omega) (by omega)
 ·obtain rfl:i=x.length:=by omega
  clear ih;rw[E9 (Nat.le_refl _)]at p4;have hT:=λ q=>JZ N O q p3 (by omega)
  rw[p4]at hT;rw[<-p2];(repeat' ((first|(apply BB<;>intro hc<;>try omega)|apply BR|(refine GR (λ_=>rfl) rfl ?_ ?_;(first|rfl|simp))|apply A7|refine AY (hT _) ?_)<;>conv=>whnf))
  exact BU rfl (PQ _)
theorem Zf {d:Nat} (h0:d≠0) (hd:d<4294967296):dg d=[d]:=by
 rw[PF h0,Nat.div_eq_of_lt hd,HP,Nat.mod_eq_of_lt hd]
theorem AfI (N:a8 L) (d:Nat) (q:Bool) (h0:d≠0) (hd:d<4294967296):Ev L 106 [.sl q ([d].map BG)] (.int .i64 (o5 d:Int)):=by
 have hT:=λ q=>JZ N [d] q (LE hd) (by simp)
 rw[show val [d]=d by simp [val],Zf h0 hd]at hT;have xq:[d].length=1:=rfl;have Cs:[d][(([d].length:Int)-1).toNat]? = some d:=rfl;have hb:=fS (k:=32) hd;refine Ev.x N.S8 rfl rfl ?_;(repeat' ((first|(apply BB<;>intro hc<;>try omega)|(apply DC;omega)|(apply FU;omega)|apply BR|(refine CT (by assumption) ?_ rfl ?_;omega)|apply A7|refine AY (hT _) ?_)<;>conv=>whnf))
 refine PL (λ_ x=>x) (λ(n x:Nat)=>n+o5 x=o5 d/\x<=d) (λ n x=>[(3,.int .i64 n),(4,.int .u32 (x:Int))]) (λ_ _=>[]) 0 d ⟨by omega,Nat.le_refl _⟩ ?_;intro n x ⟨p1,p2⟩ ih;by_cases hx:x=0
 ·subst hx
  have:o5 0=0:=by unfold o5;simp
  (repeat' ((first|(apply BB<;>intro hc<;>try omega)|apply A7)<;>conv=>whnf))
  exact DY (by omega)
 ·have h1:o5 (x/2)+1=o5 x:=by
   by_cases h1:x=1
   ·subst h1;decide
   ·exact bY 1 (x:=x) (by omega)
  (repeat' ((first|(apply BB<;>intro hc<;>try omega)|(apply BS;omega)|apply Yv|apply A7)<;>conv=>whnf))
  exact D0 [] (ih (n+1) (x/2) (by omega) ⟨by omega,by omega⟩)
theorem Pf {V P X lo s d p t:Nat} (h:V+P*p*lo=P*(X*2^s)) (ht:t=lo+d*2^s):V+P*p*(t%4294967296)+P*p*4294967296*(t/4294967296)=P*((X+p*d)*2^s):=by
 have h1:=V8 V (P*p) t;rw[h1,ht];have:P*((X+p*d)*2^s)=P*(X*2^s)+P*p*(d*2^s):=by grind
 rw[this,<-h,Nat.mul_add];omega
theorem wR (N:a8 L) (l:List Nat) (q:Bool) (n:Nat) (hD:BZ l) (hl:l.length<=549755813888) (hn:n<=65536):Ev L 107 [.sl q (l.map BG),.int .i64 (n:Int)] (.sl false ((dg (val l*2^n)).map BG)):=by
 have hT:=λ q=>JZ N l q hD (by omega)
 have d1:=GA (val l);have v1:=CX (val l);have l1:=HH hD;have hz:=KB (val l);refine Ev.x N.O0 rfl rfl ?_;by_cases h0:val l=0
 ·rw[h0,Nat.zero_mul,HP]
  (repeat' ((first|(apply BB<;>intro hc<;>try omega)|apply BR|apply A7|refine AY (hT _) ?_)<;>conv=>whnf))
  exact BU rfl (PQ [])
 rw[<-v1];generalize dg (val l)=x at *;have dn:n%32<32:=Nat.mod_lt _ (by omega);have e1:(n:Int)/32=((n/32:Nat):Int):=by omega
 have e2:(n:Int)%32=((n%32:Nat):Int):=by omega
 (repeat' ((first|(apply BB<;>intro hc<;>try omega)|(refine U4 ?_ ?_ (λ_ => ?_) (λ_ _ => ?_);omega;omega;all_goals try omega)|apply BR|apply A7|refine AY (hT _) ?_)<;>conv=>whnf))
 rw[e1];refine NQ (enc:=BG) 0 (n/32) rfl rfl (by omega) ?_;(conv=>whnf)
 skip
 refine J1 (λ i _ _=>x.length-i) (λ(i:Nat) (o:List Nat) (c:Nat)=>i<=x.length/\o.length=n/32+i/\BZ o/\c<2^(n%32)/\val o+4294967296^(n/32)*4294967296^i*c=4294967296^(n/32)*(val (x.take i)*2^(n%32))) (λ i o c=>[(10,.int .i64 i),(9,.int .u64 (c:Int)),(8,.row 107069 0 1 0 (n/32+i))]) (λ i o c=>[(107069,107069,.rw 1 (o.map BG))]) 0 (List.replicate (n/32) 0) 0 ⟨by omega,by simp,PG _,Nat.two_pow_pos _,by simp [val,kD]⟩ ?_;intro i o c ⟨p1,p2,p3,p4,p5⟩ ih;have si:=dT (s:=n%32) (by omega);by_cases hi:i<x.length
 ·obtain ⟨d,hd⟩ : ∃ d,x[i]? = some d:=⟨_,zE hi⟩
  have du:=d1.at hd;obtain ⟨f1,f2,f3,f4⟩:=Y5 (s:=n%32) du (by omega);have hr:=iH (show n%32<=64 by omega) f4;(repeat' ((first|(apply BB<;>intro hc<;>try omega)|(refine X2 ?_ (λ_ _ _ => ?_) (λ_ _ _ _ => ?_);omega;all_goals try omega)|(apply DL;omega)|apply BR|(refine CT (by assumption) ?_ rfl ?_;omega)|apply A7)<;>conv=>whnf))
  rw[e2];refine V7 (by omega) f4 ?_;(conv=>whnf)
  skip
  refine fD (n%32) (Nat.mul_mod_left _ _) p4 (by omega) ?_;(conv=>whnf)
  have m9:=Pf (d:=d) p5 rfl;have vu:(c+d*2^(n%32))/4294967296<2^(n%32):=by
   rw[Nat.div_lt_iff_lt_mul (by omega)];have:=zR (2^(n%32)) (show d<=4294967295 by omega)
   omega
  generalize c+d*2^(n%32)=t at *;(repeat' ((first|apply JL|apply FM)<;>conv=>whnf))
  refine G3 (enc:=BG) (t%4294967296) rfl p2.symm rfl (by omega) (by omega) ?_;(conv=>whnf)
  (repeat' ((first|(apply BS;omega)|apply IK)<;>conv=>whnf))
  rw[show (o++[t%4294967296]).length=n/32+(i+1) by simp [p2];omega];refine C5 [(107069,107091)] (by (conv=>whnf);exact ⟨rfl,rfl,rfl⟩) (ih (i+1) (o++[t%4294967296]) (t/4294967296) (by omega) ⟨by omega,by simp;omega,p3.append (LE (by omega)),vu,?_⟩);rw[UT,p2,GD hd,Nat.pow_add,Nat.pow_succ,<-Nat.mul_assoc];exact m9
 ·obtain rfl:i=x.length:=by omega
  clear ih;have ud:c<4294967296:=by omega
  have hOD:BZ (o++[c]):=p3.append (LE ud);have Ei:val (o++[c])=val x*2^n:=by
   rw[UT,p2,Nat.pow_add,p5,E9 (Nat.le_refl _)];have e3:2^n=4294967296^(n/32)*2^(n%32):=by
    rw[show 4294967296=2^32 from rfl,<-Nat.pow_mul,<-Nat.pow_add];congr 1;omega
   rw[e3];grind
  have Eh:(o++[c]).length=n/32+x.length+1:=by simp [p2]
  (repeat' ((first|(apply BB<;>intro hc<;>try omega)|(apply GP;omega)|apply BR|apply FM|apply A7)<;>conv=>whnf))
  refine G3 (enc:=BG) c rfl p2.symm rfl (by omega) (by omega) ?_;(conv=>whnf)
  rw[<-Ei,Eh];generalize o++[c]=O at *;rw[<-Eh];clear p3 p4 p5 Ei;refine OO 1000 N.N1 rfl rfl ?_;(repeat' (apply A7<;>conv=>whnf))
  refine HC (λ n=>n) (λ(n:Nat)=>n<=(O).length /\ ∀ i,n<=i->i<(O).length->(O)[i]? = some 0) (λ n=>[(3,.int .i64 n)]) (λ_=>[]) (O).length ⟨Nat.le_refl _,λ i h1 h2=>by omega⟩ ?_;intro n ⟨p1,p2⟩ ih;rcases n with _|n
  ·(repeat' ((first|(apply BB<;>intro hc<;>try omega)|apply A7)<;>conv=>whnf))
   refine NN 0 (by omega) (by omega) ?_;(conv=>whnf)
   have dm:=JX (l:=O) (by assumption) p1 p2 (Or.inl rfl);have n8:(List.take 0 O).length<=(O).length:=by rw[List.length_take];omega
   clear ih p2;refine fO (enc:=BG) (by omega) ?_;(conv=>whnf)
   rw[List.drop_zero,Nat.sub_zero];generalize Ik:List.take 0 O=T0 at *;refine LC (enc:=BG) (λ_=>rfl) (by omega) (by omega) ?_;(conv=>whnf)
   refine ⟨rfl,_,rfl,?_⟩;(conv=>whnf)
   (refine GR (enc:=BG) (λ_=>rfl) rfl rfl ?_;(conv=>whnf);exact BU (by rw[<-dm]) (PQ _))
  ·have e1:((n+1:Nat):Int)-1=n:=by omega
   (repeat' ((first|(apply BB<;>intro hc<;>try omega)|(apply B7;omega)|(apply DC;omega)|(refine X1 (by assumption) ?_ (λ v hv hb => ?_);omega)|apply A7)<;>conv=>whnf))
   ·rw[e1]
    exact D0 [] (ih n (by omega) ⟨by omega,λ i h1 h2=>by
     by_cases h:i=n
     ·subst h
      rw[e1,Int.toNat_natCast]at hv;rw[hv];congr 1;omega
     ·exact p2 i (by omega) h2⟩)
   ·refine NN (n+1) (by omega) (by omega) ?_
    (conv=>whnf)
    rw[e1,Int.toNat_natCast]at hv;have dm:=JX (l:=O) (by assumption) p1 p2 (Or.inr ⟨_,hv,by omega⟩);have n8:(List.take (n+1) O).length<=(O).length:=by rw[List.length_take];omega
    clear ih p2 hv;(rw[tF (l:=O)];rotate_left;exact rfl;exact rfl);(conv=>whnf)
    refine fO (enc:=BG) (by omega) ?_;(conv=>whnf)
    rw[List.drop_zero,Nat.sub_zero];generalize Ik:List.take (n+1) O=T0 at *;refine LC (enc:=BG) (λ_=>rfl) (by omega) (by omega) ?_;(conv=>whnf)
    refine ⟨rfl,_,rfl,?_⟩;(conv=>whnf)
    (refine GR (enc:=BG) (λ_=>rfl) rfl rfl ?_;(conv=>whnf);exact BU (by rw[<-dm]) (PQ _))
theorem Ajj {l:List Nat} (hD:BZ l) (k:Nat) (hk:k<=l.length):val (l.drop k)=val l/4294967296^k:=by
 have h1:=QB l k hk;have h2:=HS (hD.take k);rw[List.length_take,Nat.min_eq_left hk]at h2;rw[h1,Nat.add_mul_div_left _ _ (Nat.pow_pos (by omega)),Nat.div_eq_of_lt h2,Nat.zero_add]
theorem AhZ (n:Nat):2^n=4294967296^(n/32)*2^(n%32):=by
 rw[show 4294967296=2^32 from rfl,<-Nat.pow_mul,<-Nat.pow_add];congr 1;omega
theorem AeQ {d e V r:Nat} (hd:d<4294967296) (hr:r<32):(d+e*4294967296)/2^r%4294967296+4294967296*((e+4294967296*V)/2^r)=(d+4294967296*(e+4294967296*V))/2^r:=by
 obtain ⟨f1,f2,f3⟩:=zQ (V:=e) hd (show r<=32 by omega);rw[pC (d:=d) (V:=e+4294967296*V) (by omega),zU (d:=e) (V:=V) (by omega)];have h1:=pC (d:=d) (V:=e) (s:=r) (by omega);rw[show d+e*4294967296=d+4294967296*e by omega,h1];clear h1;generalize d/2^r=A at *;generalize e%2^r*2^(32-r)=Q at *;generalize e/2^r=Z at *;generalize 2^(32-r)=P at *;omega
theorem AfL (N:a8 L) (l:List Nat) (q:Bool) (n:Nat) (hD:BZ l) (hl:l.length<=549755813888) (hn:1<=n/\n<=65536):Ev L 107 [.sl q (l.map BG),.int .i64 (-(n:Int))] (.sl false ((dg (val l/2^n)).map BG)):=by
 have hT:=λ q=>JZ N l q hD (by omega)
 have d1:=GA (val l);have v1:=CX (val l);have l1:=HH hD;have hz:=KB (val l);refine Ev.x N.O0 rfl rfl ?_;by_cases h0:val l=0
 ·rw[h0,Nat.zero_div,HP]
  (repeat' ((first|(apply BB<;>intro hc<;>try omega)|apply BR|apply A7|refine AY (hT _) ?_)<;>conv=>whnf))
  exact BU rfl (PQ [])
 rw[<-v1];generalize dg (val l)=x at *;have Kl:n%32<32:=Nat.mod_lt _ (by omega);have e1:(- -(n:Int))/32=((n/32:Nat):Int):=by omega
 have e2:(- -(n:Int))%32=((n%32:Nat):Int):=by omega
 by_cases ApE:32*x.length<n
 ·have l8:val x/2^n=0:=by
   refine Nat.div_eq_of_lt (Nat.lt_of_lt_of_le (HS d1) ?_);rw[show 4294967296=2^32 from rfl,<-Nat.pow_mul];exact Nat.pow_le_pow_right (by omega) (by omega)
  rw[l8,HP];(repeat' ((first|(apply BB<;>intro hc<;>try omega)|(apply FU;omega)|apply BR|apply A7|refine AY (hT _) ?_)<;>conv=>whnf))
  exact BU rfl (PQ [])
 have hk:n/32<=x.length:=by omega
 have hvd:=Ajj d1 _ hk;(repeat' ((first|(apply BB<;>intro hc<;>try omega)|(apply FU;omega)|(refine U4 ?_ ?_ (λ_ => ?_) (λ_ _ => ?_);omega;omega;all_goals try omega)|(apply EW.neg;omega)|apply BR|apply A7|refine AY (hT _) ?_)<;>conv=>whnf))
 rw[e1];refine PL (λ i _=>x.length-i) (λ(i:Nat) (o:List Nat)=>n/32<=i/\i<=x.length/\o.length=i-n/32/\BZ o/\val o+4294967296^(i-n/32)*(val (x.drop i)/2^(n%32))=val (x.drop (n/32))/2^(n%32)) (λ i o=>[(6,.int .i64 i),(5,.row 107005 0 1 0 o.length)]) (λ i o=>[(107005,107005,.rw 1 (o.map BG))]) (n/32) [] ⟨Nat.le_refl _,hk,by simp,ZU,by simp [val]⟩ ?_;intro i o ⟨p0,p1,p2,p3,p5⟩ ih;by_cases hi:i<x.length
 ·obtain ⟨d,hd⟩ : ∃ d,x[i]? = some d:=⟨_,zE hi⟩
  have du:=d1.at hd;have g1:=NH hd;have g2:=ZB x (i+1);have g3:=AeQ (e:=x.getD (i+1) 0) (V:=val (x.drop (i+1+1))) du Kl;rw[<-g2,<-g1]at g3;have key : ∀ t,t=d+x.getD (i+1) 0*4294967296->val (o++[t/2^(n%32)%4294967296])+4294967296^(i+1-n/32)*(val (x.drop (i+1))/2^(n%32))=val (x.drop (n/32))/2^(n%32):=λ t ht=>by
   rw[UT,p2,show i+1-n/32=(i-n/32)+1 by omega,Nat.pow_succ,ht,Nat.add_assoc,Nat.mul_assoc,<-Nat.mul_add,g3];exact p5
  by_cases hy:i+1<x.length
  ·obtain ⟨e,he⟩ : ∃ e,x[i+1]? = some e:=⟨_,zE hy⟩
   have Jj:=d1.at he;have iw:x[((i:Int)+1).toNat]? = some e:=by rw[show ((i:Int)+1).toNat=i+1 by omega];exact he
   rw[KD he]at key;(repeat' ((first|(apply BB<;>intro hc<;>try omega)|(apply BS;omega)|(apply U3;omega)|(apply DL;omega)|apply BR|(refine CT (by assumption) ?_ rfl ?_;omega)|apply A7)<;>conv=>whnf))
   refine fD 32 (Nat.mul_mod_left _ _) (by omega) (by omega) ?_;(conv=>whnf)
   (repeat' ((first|(refine X2 ?_ (λ_ _ _ => ?_) (λ_ _ _ _ => ?_);omega;all_goals try omega)|(apply DL;omega))<;>conv=>whnf))
   rw[e2];refine V3 (n:=n%32) (by show n%32<=64;omega) ?_;(conv=>whnf)
   (repeat' ((first|apply JL|apply FM)<;>conv=>whnf))
   refine G3 (enc:=BG) ((d+e*4294967296)/2^(n%32)%4294967296) rfl rfl rfl (by omega) (by omega) ?_;(conv=>whnf)
   (repeat' ((first|(apply BS;omega)|fail)<;>conv=>whnf))
   exact D0 [(107005,107064)] (ih (i+1) (o++[(d+e*4294967296)/2^(n%32)%4294967296]) (by omega) ⟨by omega,by omega,by simp;omega,p3.append (LE (by omega)),key (d+e*4294967296) rfl⟩)
  ·rw[<-XF (show x.length<=i+1 by omega),Nat.zero_mul]at key
   (repeat' ((first|(apply BB<;>intro hc<;>try omega)|(apply BS;omega)|(refine X2 ?_ (λ_ _ _ => ?_) (λ_ _ _ _ => ?_);omega;all_goals try omega)|(apply DL;omega)|apply BR|(refine CT (by assumption) ?_ rfl ?_;omega)|apply A7)<;>conv=>whnf))
   rw[e2];refine V3 (n:=n%32) (by show n%32<=64;omega) ?_;(conv=>whnf)
   (repeat' ((first|apply JL|apply FM)<;>conv=>whnf))
   refine G3 (enc:=BG) (d/2^(n%32)%4294967296) rfl rfl rfl (by omega) (by omega) ?_;(conv=>whnf)
   (repeat' ((first|(apply BS;omega)|fail)<;>conv=>whnf))
   exact D0 [(107005,107064)] (ih (i+1) (o++[d/2^(n%32)%4294967296]) (by omega) ⟨by omega,by omega,by simp;omega,p3.append (LE (by omega)),key d rfl⟩)
 ·obtain rfl:i=x.length:=by omega
  clear ih;rw[List.drop_of_length_le (Nat.le_refl _),O8,Nat.zero_div,Nat.mul_zero,Nat.add_zero,hvd,Nat.div_div_eq_div_mul,<-AhZ]at p5;have Gl:=λ q=>JZ N o q p3 (by omega)
  rw[p5]at Gl;(repeat' ((first|(apply BB<;>intro hc<;>try omega)|apply BR|(refine GR (λ_=>rfl) rfl ?_ ?_;(first|rfl|simp))|apply A7|refine AY (Gl _) ?_)<;>conv=>whnf))
  exact BU rfl (PQ _)
end Go.e6
