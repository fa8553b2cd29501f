/-
  The nearest word (layer 21), the program.
-/
import Derived.Test.YthgjfcjecnmflaaGreatB10
import Derived.Test.YthgjfcjecnmflaaGreatB8
import Derived.Test.YthgjfcjecnmflaaGreatB9
import Derived.Test.YthgjfcjecnmflaaGreatB2
import Derived.Test.YthgjfcjecnmflaaGreatB7
set_option linter.unusedSimpArgs false
set_option linter.unusedVariables false
set_option linter.unnecessarySimpa false
namespace Go.e6
open F
attribute [local irreducible] AH A8 BT A5 EW BJ CS CR EU DK EE II C8 B5 DB FG AP CG BF pw HE FL HO HG HN G2 G5 DG FF
variable {L:Lib}
set_option maxHeartbeats 16000000
set_option maxRecDepth 8000
def QO (r:Int) (x:Rat):Int:=if r=2 then (x+Rat.divInt 1 2).floor else if r=3 then (if x.num<0 then -(OA x).floor else (OA x).floor) else x.floor
def E6 (w:Wd) (x:Rat):Int:=QO w.r (x*((pw w.f:Int):Rat))
def VO (w:Wd) (v:Int):AV:=if FT w v then .g8 [.int .i64 v,.bool true] else .g8 [.int .i64 0,.bool false]
theorem Zh {v:Nat} (h:v≠0) (h2:v<4294967296):dg v=[v]:=by
 rw[PF h,Nat.mod_eq_of_lt h2,Nat.div_eq_of_lt h2,HP]
theorem nA (N:ae L) {x:Rat} {k:Nat} (hx:Bt k x) (hk:k<2199023255552) (hb:x.floor.natAbs<4294967296) :
  ∃ D:List Nat,Ev L 384 [.agg (eQ x)] (.agg [.bool (decide (x.floor<0)),.sl false (D.map BG)])/\(D.length=0/\x.floor=0\/D.length=1/\D[(0:Int).toNat]? = some x.floor.natAbs/\x.floor≠0):=by
 have hF:=Afs N hx hk;refine ⟨dg x.floor.natAbs,hF,?_⟩;by_cases h:x.floor=0
 ·exact Or.inl ⟨by rw[h];exact (KB 0).2 rfl,h⟩
 ·refine Or.inr ?_
  rw[Zh (by omega) hb];exact ⟨rfl,rfl,h⟩
theorem cE (v:Int) (b:Bool):B4 (.g8 [.int .i64 v,.bool b]):=by simp [B4,DN]
theorem Ago (x:Rat):0<=(OA x).floor:=by
 rw[Rat.floor_def];refine Int.ediv_nonneg ?_ (by omega);unfold OA;split
 ·rw[Rat.neg_num];omega
 ·omega
theorem Afo (I:g9 L) (N:ae L) (w:Wd) (hw:WV w) (x:Rat) (k:Nat) (hx:Bt k x) (hk:k<=1000000) (hb:(E6 w x).natAbs<4294967296) :
  Ev L 385 [.agg (EO w),.agg (eQ x)] (VO w (E6 w x)):=by
 have Bz:=hw;unfold WV at Bz;have hf:0<=w.f/\w.f<=62:=by omega
 have Hd:=XP (n:=w.f) (m:=23) (by omega);have uz:pw 23=8388608:=by unfold pw;rfl
 have hpp:=PX w.f;have hO:=Q2 N.tob7 (pw w.f) (by omega);have bp:Bt 24 (((pw w.f:Int)):Rat):=Bt.ofInt (by
  have:(2:Nat)^24=16777216:=rfl
  omega)
 have hM:=nC N.tob7 hx bp (by omega) (by omega);have tj:=hx.mul bp
 unfold VO;unfold E6 QO at *;generalize x*((pw w.f:Int):Rat)=y at *;have ga : ∀ v:Int,(∀ u,u=v->FT w u->BF (.g8 [.int .i64 u,.bool true]) (if FT w v then .g8 [.int .i64 v,.bool true] else .g8 [.int .i64 0,.bool false])) /\ ∀ u,u=v -> ¬ FT w u->BF (.g8 [.int .i64 0,.bool false]) (if FT w v then .g8 [.int .i64 v,.bool true] else .g8 [.int .i64 0,.bool false]):=λ v =>
  ⟨λ u e h=>by subst e;rw[if_pos h];exact BU rfl (cE _ _),λ u e h=>by subst e;rw[if_neg h];exact BU rfl (cE _ _)⟩
 by_cases h2:w.r=2
 ·rw[if_pos h2]at hb ⊢
  have Ef:=Afd N.toaf 1 2 (by omega) (by omega) (by omega);have bh:Bt 1 (Rat.divInt 1 2):=⟨by decide,by decide⟩;have hA:=mU N.tob7 tj bh (by omega) (by omega)
  have bz:=tj.add bh
  generalize y+Rat.divInt 1 2=z at *;obtain ⟨D,hF,zh⟩:=nA N bz (by omega) hb;obtain ⟨u4,u5⟩:=ga z.floor;generalize z.floor=v at *;by_cases hn:v<0
  ·rw[show decide (v<0)=true from decide_eq_true hn]at hF
   rcases zh with ⟨hl,hv⟩|⟨hl,hD,hv⟩
   ·omega
   ·skip
    refine Ev.x N.G8 rfl rfl ?_;(repeat' ((first|(apply BB<;>intro hc<;>try omega)|(refine JN ?_ (λ_ _ => ?_);omega)|(apply EW.neg;omega)|(apply PN;omega)|apply BR|(refine CT (by assumption) ?_ rfl ?_;omega)|apply A7|refine FI (M4 ⟨_,_,_,_⟩ I) (λ hf => ?_) (λ hf => ?_)|refine FI (Q1 ⟨_,_,_,_⟩ I _) (λ hf => ?_) (λ hf => ?_)|refine AY (hO) ?_|refine AY (hM) ?_|refine AY (hF) ?_|refine AY (Ef) ?_|refine AY (hA) ?_)<;>conv=>whnf))
    all_goals first|exact u4 _ (by omega) hf|exact u5 _ (by omega) hf|exact absurd hw hf|(exfalso;omega)
  ·rw[show decide (v<0)=false from decide_eq_false hn]at hF
   rcases zh with ⟨hl,hv⟩|⟨hl,hD,hv⟩
   ·skip
    refine Ev.x N.G8 rfl rfl ?_;(repeat' ((first|(apply BB<;>intro hc<;>try omega)|(refine JN ?_ (λ_ _ => ?_);omega)|apply BR|apply A7|refine FI (M4 ⟨_,_,_,_⟩ I) (λ hf => ?_) (λ hf => ?_)|refine FI (Q1 ⟨_,_,_,_⟩ I _) (λ hf => ?_) (λ hf => ?_)|refine AY (hO) ?_|refine AY (hM) ?_|refine AY (hF) ?_|refine AY (Ef) ?_|refine AY (hA) ?_)<;>conv=>whnf))
    all_goals first|exact u4 _ (by omega) hf|exact u5 _ (by omega) hf|exact absurd hw hf|(exfalso;omega)
   ·skip
    refine Ev.x N.G8 rfl rfl ?_;(repeat' ((first|(apply BB<;>intro hc<;>try omega)|(refine JN ?_ (λ_ _ => ?_);omega)|(apply PN;omega)|apply BR|(refine CT (by assumption) ?_ rfl ?_;omega)|apply A7|refine FI (M4 ⟨_,_,_,_⟩ I) (λ hf => ?_) (λ hf => ?_)|refine FI (Q1 ⟨_,_,_,_⟩ I _) (λ hf => ?_) (λ hf => ?_)|refine AY (hO) ?_|refine AY (hM) ?_|refine AY (hF) ?_|refine AY (Ef) ?_|refine AY (hA) ?_)<;>conv=>whnf))
    all_goals first|exact u4 _ (by omega) hf|exact u5 _ (by omega) hf|exact absurd hw hf|(exfalso;omega)
 rw[if_neg h2]at hb ⊢;by_cases h3:w.r=3
 ·rw[if_pos h3]at hb ⊢
  have hA:=Ae9 N.tofg tj (by omega)
  have zi:=cT N.tob7 tj (by omega)
  have bz:=Bt.Ht tj
  have h0:=Ago y;obtain ⟨D,hF,zh⟩:=nA N bz (by omega) (by split at hb<;>omega);obtain ⟨u4,u5⟩:=ga (if y.num<0 then -(OA y).floor else (OA y).floor);generalize (OA y).floor=v at *;rw[show decide (v<0)=false from decide_eq_false (by omega)]at hF;by_cases hy:y.num<0
  ·rw[if_pos hy]at hb u4 u5 ⊢
   rw[show u6 y.num = -1 from (jE hy).symm]at zi;rcases zh with ⟨hl,hv⟩|⟨hl,hD,hv⟩
   ·skip
    refine Ev.x N.G8 rfl rfl ?_;(repeat' ((first|(apply BB<;>intro hc<;>try omega)|(refine JN ?_ (λ_ _ => ?_);omega)|(apply EW.neg;omega)|apply BR|apply A7|refine FI (M4 ⟨_,_,_,_⟩ I) (λ hf => ?_) (λ hf => ?_)|refine FI (Q1 ⟨_,_,_,_⟩ I _) (λ hf => ?_) (λ hf => ?_)|refine AY (hO) ?_|refine AY (hM) ?_|refine AY (hF) ?_|refine AY (hA) ?_|refine AY (zi) ?_)<;>conv=>whnf))
    all_goals first|exact u4 _ (by omega) hf|exact u5 _ (by omega) hf|exact absurd hw hf|(exfalso;omega)
   ·skip
    refine Ev.x N.G8 rfl rfl ?_;(repeat' ((first|(apply BB<;>intro hc<;>try omega)|(refine JN ?_ (λ_ _ => ?_);omega)|(apply EW.neg;omega)|(apply PN;omega)|apply BR|(refine CT (by assumption) ?_ rfl ?_;omega)|apply A7|refine FI (M4 ⟨_,_,_,_⟩ I) (λ hf => ?_) (λ hf => ?_)|refine FI (Q1 ⟨_,_,_,_⟩ I _) (λ hf => ?_) (λ hf => ?_)|refine AY (hO) ?_|refine AY (hM) ?_|refine AY (hF) ?_|refine AY (hA) ?_|refine AY (zi) ?_)<;>conv=>whnf))
    all_goals first|exact u4 _ (by omega) hf|exact u5 _ (by omega) hf|exact absurd hw hf|(exfalso;omega)
  ·rw[if_neg hy]at hb u4 u5 ⊢
   have Ku:0<=u6 y.num:=by unfold u6;rw[if_neg hy];split<;>omega
   generalize u6 y.num=s at *;rcases zh with ⟨hl,hv⟩|⟨hl,hD,hv⟩
   ·skip
    refine Ev.x N.G8 rfl rfl ?_;(repeat' ((first|(apply BB<;>intro hc<;>try omega)|(refine JN ?_ (λ_ _ => ?_);omega)|apply BR|apply A7|refine FI (M4 ⟨_,_,_,_⟩ I) (λ hf => ?_) (λ hf => ?_)|refine FI (Q1 ⟨_,_,_,_⟩ I _) (λ hf => ?_) (λ hf => ?_)|refine AY (hO) ?_|refine AY (hM) ?_|refine AY (hF) ?_|refine AY (hA) ?_|refine AY (zi) ?_)<;>conv=>whnf))
    all_goals first|exact u4 _ (by omega) hf|exact u5 _ (by omega) hf|exact absurd hw hf|(exfalso;omega)
   ·skip
    refine Ev.x N.G8 rfl rfl ?_;(repeat' ((first|(apply BB<;>intro hc<;>try omega)|(refine JN ?_ (λ_ _ => ?_);omega)|(apply PN;omega)|apply BR|(refine CT (by assumption) ?_ rfl ?_;omega)|apply A7|refine FI (M4 ⟨_,_,_,_⟩ I) (λ hf => ?_) (λ hf => ?_)|refine FI (Q1 ⟨_,_,_,_⟩ I _) (λ hf => ?_) (λ hf => ?_)|refine AY (hO) ?_|refine AY (hM) ?_|refine AY (hF) ?_|refine AY (hA) ?_|refine AY (zi) ?_)<;>conv=>whnf))
    all_goals first|exact u4 _ (by omega) hf|exact u5 _ (by omega) hf|exact absurd hw hf|(exfalso;omega)
 ·rw[if_neg h3]at hb ⊢
  obtain ⟨D,hF,zh⟩:=nA N tj (by omega) hb
  obtain ⟨u4,u5⟩:=ga y.floor;generalize y.floor=v at *;by_cases hn:v<0
  ·rw[show decide (v<0)=true from decide_eq_true hn]at hF
   rcases zh with ⟨hl,hv⟩|⟨hl,hD,hv⟩
   ·omega
   ·skip
    refine Ev.x N.G8 rfl rfl ?_;(repeat' ((first|(apply BB<;>intro hc<;>try omega)|(refine JN ?_ (λ_ _ => ?_);omega)|(apply EW.neg;omega)|(apply PN;omega)|apply BR|(refine CT (by assumption) ?_ rfl ?_;omega)|apply A7|refine FI (M4 ⟨_,_,_,_⟩ I) (λ hf => ?_) (λ hf => ?_)|refine FI (Q1 ⟨_,_,_,_⟩ I _) (λ hf => ?_) (λ hf => ?_)|refine AY (hO) ?_|refine AY (hM) ?_|refine AY (hF) ?_)<;>conv=>whnf))
    all_goals first|exact u4 _ (by omega) hf|exact u5 _ (by omega) hf|exact absurd hw hf|(exfalso;omega)
  ·rw[show decide (v<0)=false from decide_eq_false hn]at hF
   rcases zh with ⟨hl,hv⟩|⟨hl,hD,hv⟩
   ·skip
    refine Ev.x N.G8 rfl rfl ?_;(repeat' ((first|(apply BB<;>intro hc<;>try omega)|(refine JN ?_ (λ_ _ => ?_);omega)|apply BR|apply A7|refine FI (M4 ⟨_,_,_,_⟩ I) (λ hf => ?_) (λ hf => ?_)|refine FI (Q1 ⟨_,_,_,_⟩ I _) (λ hf => ?_) (λ hf => ?_)|refine AY (hO) ?_|refine AY (hM) ?_|refine AY (hF) ?_)<;>conv=>whnf))
    all_goals first|exact u4 _ (by omega) hf|exact u5 _ (by omega) hf|exact absurd hw hf|(exfalso;omega)
   ·skip
    refine Ev.x N.G8 rfl rfl ?_;(repeat' ((first|(apply BB<;>intro hc<;>try omega)|(refine JN ?_ (λ_ _ => ?_);omega)|(apply PN;omega)|apply BR|(refine CT (by assumption) ?_ rfl ?_;omega)|apply A7|refine FI (M4 ⟨_,_,_,_⟩ I) (λ hf => ?_) (λ hf => ?_)|refine FI (Q1 ⟨_,_,_,_⟩ I _) (λ hf => ?_) (λ hf => ?_)|refine AY (hO) ?_|refine AY (hM) ?_|refine AY (hF) ?_)<;>conv=>whnf))
    all_goals first|exact u4 _ (by omega) hf|exact u5 _ (by omega) hf|exact absurd hw hf|(exfalso;omega)
theorem iL {q:Rat}:q.num<0↔q<0:=by rw[<-Int.not_le,Rat.num_nonneg,Rat.not_le]
theorem Ol {q:Rat}:0<q.num↔0<q:=by
 have h:=iL (q := -q);rw[Rat.neg_num]at h;constructor
 ·intro h1
  have:=h.1 (by omega)
  grind
 ·intro h1
  have:=h.2 (by grind)
  omega
theorem AiH {m:Int} {x:Rat}:u6 ((m:Rat)-x).num<=0↔m<=x.floor:=by
 rw[Rat.le_floor_iff];have h1:u6 ((m:Rat)-x).num<=0↔((m:Rat)-x).num<=0:=by
  unfold u6;split
  ·omega
  ·split<;>omega
 rw[h1,<-Int.not_lt,Ol];constructor<;>intro h<;>grind
theorem AiI {m:Int} {x:Rat}:u6 ((m:Rat)-x).num<0↔(m:Rat)<x:=by
 have h1:u6 ((m:Rat)-x).num<0↔((m:Rat)-x).num<0:=by
  unfold u6;split
  ·omega
  ·split<;>omega
 rw[h1,iL];constructor<;>intro h<;>grind
theorem AiG {m:Int} {x:Rat}:0<u6 (x-(m:Rat)).num↔(m:Rat)<x:=by
 have h1:0<u6 (x-(m:Rat)).num↔0<(x-(m:Rat)).num:=by
  unfold u6;split
  ·omega
  ·split<;>omega
 rw[h1,Ol];constructor<;>intro h<;>grind
theorem AiF {m:Int} {x:Rat}:u6 (x-(m:Rat)).num<0↔x<(m:Rat):=by
 have h1:u6 (x-(m:Rat)).num<0↔(x-(m:Rat)).num<0:=by
  unfold u6;split
  ·omega
  ·split<;>omega
 rw[h1,iL];constructor<;>intro h<;>grind
theorem wU (N:de L) (x:Rat) (k:Nat) (hx:Bt k x) (hk:k<=1000000) (h1 : -1073741824<=x.floor) (h2:x.floor<=1073741824):Ev L 361 [.agg (eQ x)] (.g8 [.int .i64 x.floor,.bool true]):=by
 have hO:=λ(m:Int) (hm : -1099511627776<=m/\m<=1099511627776)=>ZY N.toa8 m (by omega)
 have bO:=λ(m:Int) (hm : -1099511627776<=m/\m<=1099511627776)=>Bt.ofInt (k:=41) (z:=m) (by
  have:(2:Nat)^41=2199023255552:=rfl
  omega)
 have hC:=λ m hm=>YJ N.toa8 (bO m hm) hx (by omega) (by omega)
 have hC1:=YJ N.toa8 hx (bO 1099511627776 (by omega)) (by omega) (by omega);have hC2:=YJ N.toa8 hx (bO (-1099511627776) (by omega)) (by omega) (by omega);have g1 : ¬ 0<u6 (x-((1099511627776:Int):Rat)).num:=λ h=>by
  have:=Rat.le_floor_iff.2 (Rat.le_of_lt (AiG.1 h))
  omega
 have g2 : ¬ u6 (x-(((-1099511627776:Int)):Rat)).num<0:=λ h=>by
  have:=Rat.floor_lt_iff.2 (AiF.1 h)
  omega
 have hO1:=hO 1099511627776 (by omega);have hO2:=hO (-1099511627776) (by omega);have hL:=λ m:Int=>AiH (m:=m) (x:=x)
 generalize u6 (x-((1099511627776:Int):Rat)).num=s1 at *;generalize u6 (x-(((-1099511627776:Int)):Rat)).num=s2 at *;generalize x.floor=F at *;refine Ev.x N.T8 rfl rfl ?_;(repeat' ((first|(apply BB<;>intro hc<;>try omega)|apply A7|refine AY (hO1) ?_|refine AY (hO2) ?_|refine AY (hC1) ?_|refine AY (hC2) ?_)<;>conv=>whnf))
 refine PL (λ(lo:Int) (hi:Int)=>(hi-lo).toNat) (λ lo hi => -1099511627776<=lo/\lo<=F/\F<=hi/\hi<=1099511627776) (λ lo hi=>[(4,.int .i64 lo),(5,.int .i64 hi)]) (λ_ _=>[]) (-1099511627776) 1099511627776 (by omega) ?_;intro lo hi p1 ih;by_cases l8:lo<hi
 ·have hm : -1099511627776<=lo+(hi-lo+1)/2/\lo+(hi-lo+1)/2<=1099511627776:=by omega
  have Rm:=hO _ hm;have Rk:=hC _ hm;have Rl:=hL (lo+(hi-lo+1)/2);by_cases hle:lo+(hi-lo+1)/2<=F
  ·have hs:=Rl.2 hle
   generalize u6 (((lo+(hi-lo+1)/2:Int):Rat)-x).num=s at *;(repeat' ((first|(apply BB<;>intro hc<;>try omega)|(apply BS;omega)|(apply DC;omega)|(refine U4 ?_ ?_ (λ_ => ?_) (λ_ _ => ?_);omega;omega;all_goals try omega)|apply A7|refine AY (Rm) ?_|refine AY (Rk) ?_)<;>conv=>whnf))
   exact C5 [] (by (conv=>whnf);exact ⟨rfl,rfl,rfl⟩) (ih _ _ (by omega) (by omega))
  ·have hs : ¬ _:=λ h=>hle (Rl.1 h)
   generalize u6 (((lo+(hi-lo+1)/2:Int):Rat)-x).num=s at *;(repeat' ((first|(apply BB<;>intro hc<;>try omega)|(apply BS;omega)|(apply DC;omega)|(refine U4 ?_ ?_ (λ_ => ?_) (λ_ _ => ?_);omega;omega;all_goals try omega)|apply A7|refine AY (Rm) ?_|refine AY (Rk) ?_)<;>conv=>whnf))
   exact C5 [] (by (conv=>whnf);exact ⟨rfl,rfl,rfl⟩) (ih _ _ (by omega) (by omega))
 ·obtain rfl:lo=F:=by omega
  clear ih;(repeat' ((first|(apply BB<;>intro hc<;>try omega)|apply A7)<;>conv=>whnf))
  exact BU rfl (cE _ _)
theorem AfH (N:ae L) (n:Nat) (hn:n<=23):Ev L 386 [.int .i64 (n:Int)] (.agg (eQ ((pw (n:Int):Int):Rat))):=by
 have hO:=ZY N.toa8 1 (by omega);refine Ev.x N.UD rfl rfl ?_;(repeat' ((first|apply A7|refine AY (hO) ?_)<;>conv=>whnf))
 refine QV (λ i=>n-i) (λ(i:Nat)=>i<=n) (λ i=>[(4,.int .i64 i)]) (λ i=>[(3,3,.bx (eQ ((pw (i:Int):Int):Rat)))]) [] [] 0 (by rw[show pw ((0:Nat):Int)=1 from Ah4];exact (by (conv=>whnf);exact ⟨rfl,rfl,rfl⟩)) (by omega) ?_;intro i p1 ih;by_cases hi:i<n
 ·have h1:=XP (n:=(i:Int)) (m:=23) (by omega)
  have uz:pw 23=8388608:=by unfold pw;rfl
  have h2:=PX (i:Int);have bp:Bt 24 ((pw (i:Int):Int):Rat):=Bt.ofInt (by
   have:(2:Nat)^24=16777216:=rfl
   omega)
  have hA:=vZ N.toa8 bp bp (by omega) (by omega);have hs:((pw (i:Int):Int):Rat)+((pw (i:Int):Int):Rat)=((pw ((i+1:Nat):Int):Int):Rat):=by
   rw[<-Rat.intCast_add,Ah3 (n:=((i+1:Nat):Int)) (by omega),show ((i+1:Nat):Int)-1=(i:Int) by omega];congr 1;omega
  rw[hs]at hA;(repeat' ((first|(apply BB<;>intro hc<;>try omega)|(apply BS;omega)|apply A7|refine AY (hA) ?_)<;>conv=>whnf))
  exact D0 [] (ih (i+1) (by omega) (by omega))
 ·obtain rfl:i=n:=by omega
  clear ih;(repeat' ((first|(apply BB<;>intro hc<;>try omega)|apply A7)<;>conv=>whnf))
  exact BU rfl (G7 _)
theorem pL (x:Rat):QO 3 x=if x.floor<0/\(x.floor:Rat)<x then x.floor+1 else x.floor:=by
 unfold QO;rw[if_neg (by omega),if_pos rfl];have im:x.floor<0↔x.num<0:=by
  rw[Rat.floor_lt_iff,iL];rfl
 by_cases h:x.num<0
 ·rw[if_pos h]
  have hA:OA x = -x:=by unfold OA;rw[if_pos h]
  rw[hA];have hf:=im.2 h;by_cases h2:(x.floor:Rat)<x
  ·rw[if_pos ⟨hf,h2⟩]
   have g1 : -(x.floor+1)<=(-x).floor:=by
    rw[Rat.le_floor_iff];have:=Rat.lt_floor_add_one x
    rw[Rat.intCast_neg];grind
   have g2:(-x).floor < -x.floor:=by
    rw[Rat.floor_lt_iff,Rat.intCast_neg];grind
   omega
  ·rw[if_neg λ e=>h2 e.2]
   have e:(x.floor:Rat)=x:=Rat.le_antisymm (Rat.floor_le x) (Rat.not_lt.1 h2);have:(-x).floor = -x.floor:=by
    conv=>lhs;rw[<-e,<-Rat.intCast_neg,Rat.floor_intCast]
   omega
 ·rw[if_neg h]
  have hA:OA x=x:=by unfold OA;rw[if_neg h]
  rw[hA,if_neg λ e=>h (im.1 e.1)]
theorem Oc {r:Int} {x:Rat} (h1 : -536870912<=x.floor) (h2:x.floor<=536870912):(QO r x).natAbs<4294967296 /\ -1073741824<=(x+Rat.divInt 1 2).floor/\(x+Rat.divInt 1 2).floor<=1073741824:=by
 have hh:(0:Rat)<=Rat.divInt 1 2/\Rat.divInt 1 2<=1:=by decide
 have g1:x.floor<=(x+Rat.divInt 1 2).floor:=Rat.floor_monotone (by grind);have g2:(x+Rat.divInt 1 2).floor<=(x+1).floor:=Rat.floor_monotone (by grind);rw[Rat.floor_add_one]at g2;refine ⟨?_,by omega,by omega⟩;by_cases h:r=3
 ·rw[h,pL];split<;>omega
 ·unfold QO
  rw[if_neg h];split<;>omega
theorem AfW (I:g9 L) (N:ae L) (w:Wd) (hw:WV w) (x:Rat) (k:Nat) (hx:Bt k x) (hk:k<=100000) (h1 : -536870912<=(x*((pw w.f:Int):Rat)).floor) (h2:(x*((pw w.f:Int):Rat)).floor<=536870912) :
  Ev L 387 [.agg (EO w),.agg (eQ x)] (VO w (E6 w x)):=by
 have Bz:=hw;unfold WV at Bz;obtain ⟨f,hf⟩:=Int.eq_ofNat_of_zero_le (show 0<=w.f by omega);have hP:=AfH N f (by omega);rw[<-hf]at hP;have Hd:=XP (n:=w.f) (m:=23) (by omega);have uz:pw 23=8388608:=by unfold pw;rfl
 have hpp:=PX w.f;have bp:Bt 24 (((pw w.f:Int)):Rat):=Bt.ofInt (by
  have:(2:Nat)^24=16777216:=rfl
  omega)
 have hM:=wI N.toa8 hx bp (by omega) (by omega);have tj:=hx.mul bp
 unfold VO E6;generalize x*((pw w.f:Int):Rat)=y at *;clear hf;have ga : ∀ v:Int,(∀ u,u=v->FT w u->BF (.g8 [.int .i64 u,.bool true]) (if FT w v then .g8 [.int .i64 v,.bool true] else .g8 [.int .i64 0,.bool false])) /\ ∀ u,u=v -> ¬ FT w u->BF (.g8 [.int .i64 0,.bool false]) (if FT w v then .g8 [.int .i64 v,.bool true] else .g8 [.int .i64 0,.bool false]):=λ v =>
  ⟨λ u e h=>by subst e;rw[if_pos h];exact BU rfl (cE _ _),λ u e h=>by subst e;rw[if_neg h];exact BU rfl (cE _ _)⟩
 by_cases db:w.r=2
 ·have Ef:=gU N.toa8 1 2 (by omega) (by omega)
  have bh:Bt 1 (Rat.divInt 1 2):=⟨by decide,by decide⟩;have hA:=vZ N.toa8 tj bh (by omega) (by omega)
  have bz:=tj.add bh
  obtain ⟨_,g1,g2⟩:=Oc (r:=2) h1 h2;have hI:=wU N.tode _ _ bz (by omega) g1 g2;have e:QO w.r y=(y+Rat.divInt 1 2).floor:=by unfold QO;rw[if_pos db]
  rw[e];obtain ⟨u4,u5⟩:=ga (y+Rat.divInt 1 2).floor;generalize (y+Rat.divInt 1 2)=z at *;generalize z.floor=v at *;refine Ev.x N.N2 rfl rfl ?_;(repeat' ((first|(apply BB<;>intro hc<;>try omega)|apply A7|refine FI (Q4 ⟨_,_,_,_⟩ I) (λ hf => ?_) (λ hf => ?_)|refine FI (gW ⟨_,_,_,_⟩ I _) (λ hf => ?_) (λ hf => ?_)|refine AY (hP) ?_|refine AY (hM) ?_|refine AY (Ef) ?_|refine AY (hA) ?_|refine AY (hI) ?_)<;>conv=>whnf))
  all_goals first|exact u4 _ (by omega) hf|exact u5 _ (by omega) hf|exact absurd hw hf|(exfalso;omega)
 have hI:=wU N.tode _ _ tj (by omega) (by omega) (by omega)
 by_cases Sk:w.r=3
 ·have e:=pL y
  rw[Sk,e];have hO:=ZY N.toa8 y.floor (by omega);have bo:Bt 30 ((y.floor:Int):Rat):=Bt.ofInt (by
   have:(2:Nat)^30=1073741824:=rfl
   omega)
  have hC:=YJ N.toa8 bo tj (by omega) (by omega)
  have hs:=AiI (m:=y.floor) (x:=y);obtain ⟨u4,u5⟩:=ga (if y.floor<0/\(y.floor:Rat)<y then y.floor+1 else y.floor);clear e;generalize u6 ((y.floor:Rat)-y).num=s at *;by_cases ub:y.floor<0/\(y.floor:Rat)<y
  ·have Dd:=hs.2 ub.2
   have zz:=ub.1;rw[if_pos ub]at u4 u5 ⊢;clear hs;generalize y.floor=v at *;refine Ev.x N.N2 rfl rfl ?_;(repeat' ((first|(apply BB<;>intro hc<;>try omega)|(apply BS;omega)|apply A7|refine FI (Q4 ⟨_,_,_,_⟩ I) (λ hf => ?_) (λ hf => ?_)|refine FI (gW ⟨_,_,_,_⟩ I _) (λ hf => ?_) (λ hf => ?_)|refine AY (hP) ?_|refine AY (hM) ?_|refine AY (hI) ?_|refine AY (hO) ?_|refine AY (hC) ?_)<;>conv=>whnf))
   all_goals first|exact u4 _ (by omega) hf|exact u5 _ (by omega) hf|exact absurd hw hf|(exfalso;omega)
  ·rw[if_neg ub]at u4 u5 ⊢
   have Dd:y.floor<0->0<=s:=λ h=>Int.not_lt.1 λ g=>ub ⟨h,hs.1 g⟩
   clear hs ub;generalize y.floor=v at *;refine Ev.x N.N2 rfl rfl ?_;(repeat' ((first|(apply BB<;>intro hc<;>try omega)|apply A7|refine FI (Q4 ⟨_,_,_,_⟩ I) (λ hf => ?_) (λ hf => ?_)|refine FI (gW ⟨_,_,_,_⟩ I _) (λ hf => ?_) (λ hf => ?_)|refine AY (hP) ?_|refine AY (hM) ?_|refine AY (hI) ?_|refine AY (hO) ?_|refine AY (hC) ?_)<;>conv=>whnf))
   all_goals first|exact u4 _ (by omega) hf|exact u5 _ (by omega) hf|exact absurd hw hf|(exfalso;omega)
 ·have e:QO w.r y=y.floor:=by unfold QO;rw[if_neg db,if_neg Sk]
  rw[e];obtain ⟨u4,u5⟩:=ga y.floor;generalize y.floor=v at *;refine Ev.x N.N2 rfl rfl ?_;(repeat' ((first|(apply BB<;>intro hc<;>try omega)|apply A7|refine FI (Q4 ⟨_,_,_,_⟩ I) (λ hf => ?_) (λ hf => ?_)|refine FI (gW ⟨_,_,_,_⟩ I _) (λ hf => ?_) (λ hf => ?_)|refine AY (hP) ?_|refine AY (hM) ?_|refine AY (hI) ?_)<;>conv=>whnf))
  all_goals first|exact u4 _ (by omega) hf|exact u5 _ (by omega) hf|exact absurd hw hf|(exfalso;omega)
def DJ (row:List Rat) (x:Rat):List (Int × Rat):=(List.range row.length).map (λ j:Nat=>((j:Int)+1,row.getD j 0))++[(0,x)]
def E8 (w:Wd) (l:List (Int × Rat)):List (Int × Int):=l.filterMap λ p=>if E6 w p.2=0 then none else some (p.1,E6 w p.2)
def GC (w:Wd) (l:List (Int × Rat)):Bool:=l.all λ p=>decide (FT w (E6 w p.2))
theorem lK (row:List Rat) (x:Rat):(DJ row x).length=row.length+1:=by simp [DJ]
theorem tR {row:List Rat} {x y:Rat} {j:Nat} (h:row[j]? = some y):(DJ row x)[j]? = some ((j:Int)+1,y):=by
 have h1:=(zS h).1;rw[DJ,List.getElem?_append_left (by simpa using h1),List.getElem?_map,List.getElem?_range h1,Option.map_some,List.getD_eq_getElem?_getD,h];rfl
theorem tS {row:List Rat} {x:Rat}:(DJ row x)[row.length]? = some (0,x):=by
 rw[DJ,List.getElem?_append_right (by simp)];simp
theorem xT {w:Wd} {l:List (Int × Rat)} {j:Nat} {p:Int × Rat} (h:l[j]? = some p):GC w (l.take (j+1))=(GC w (l.take j)&&decide (FT w (E6 w p.2))):=by
 rw[List.take_add_one,h,GC,GC,List.all_append];simp
theorem hH {w:Wd} {l:List (Int × Rat)} {j:Nat} {p:Int × Rat} (h:l[j]? = some p) (hp : ¬ FT w (E6 w p.2)):GC w l=false:=by
 rw[GC,List.all_eq_false];exact ⟨p,zM h,by simpa using hp⟩
theorem jW {w:Wd} {l:List (Int × Rat)} {j:Nat} {p:Int × Rat} (h:l[j]? = some p):E8 w (l.take (j+1))=E8 w (l.take j)++if E6 w p.2=0 then [] else [(p.1,E6 w p.2)]:=by
 rw[List.take_add_one,h,E8,E8,List.filterMap_append];congr 1;simp only[Option.toList_some,List.filterMap_cons,List.filterMap_nil];split<;>rename_i h1<;>split at h1<;>simp_all
theorem rM (w:Wd) (l:List (Int × Rat)):(E8 w l).length<=l.length:=List.length_filterMap_le _ _
def J8 (w:Wd) (x:Rat):Prop:=Bt 30 x /\ -536870912<=(x*((pw w.f:Int):Rat)).floor/\(x*((pw w.f:Int):Rat)).floor<=536870912
theorem lN (l:List (Int × Int)):GF (l.map OE):=YB (λ_=>by simp [DN,B4]) l
theorem nS (I:g9 L) (N:w8 L) (w:Wd) (hw:WV w) (row:List Rat) (x:Rat) (q:Bool) (hr : ∀ y∈row,J8 w y) (hx:J8 w x) (hn:row.length<=64) :
  Ev L 390 [.sl q (row.map eQ),.agg (eQ x),.agg (EO w)] (if GC w (DJ row x) then .g8 [.sl false ((E8 w (DJ row x)).map OE),.bool true] else .g8 [.sl false [],.bool false]):=by
 have n8:=lK row x;refine Ev.x N.UH rfl rfl ?_;(repeat' (apply A7<;>conv=>whnf))
 refine HC (λ j=>row.length+1-j) (λ(j:Nat)=>j<=row.length+1/\GC w ((DJ row x).take j)=true) (λ j=>[(9,.int .i64 j),(8,.row 8 0 2 0 (E8 w ((DJ row x).take j)).length)]) (λ j=>[(8,8,.rw 2 ((E8 w ((DJ row x).take j)).map OE))]) 0 ⟨by omega,rfl⟩ ?_;intro j ⟨p1,p2⟩ ih;have hE : ∀ y,J8 w y->Ev L 387 [.agg (EO w),.agg (eQ y)] (VO w (E6 w y)):=λ y hy=>AfW I N.toae w hw y 30 hy.1 (by omega) hy.2.1 hy.2.2
 have js : ∀ p:Int × Rat,(DJ row x)[j]? = some p->(FT w (E6 w p.2)->GC w ((DJ row x).take (j+1))=true):=λ p h hf=>by
  rw[xT h,p2,decide_eq_true hf];rfl
 have l8:(E8 w ((DJ row x).take j)).length<=65:=by
  have:=rM w ((DJ row x).take j)
  rw[List.length_take]at this;omega
 by_cases hj:j<row.length
 ·obtain ⟨y,hy⟩ : ∃ y,row[j]? = some y:=⟨_,zE (by omega)⟩
  have Dh:row[(j:Int).toNat]? = some y:=hy;have hp:=tR (x:=x) hy;have hN:=hE y (hr y (zM hy));have ht:=jW (w:=w) hp;have me:=js _ hp;have re:=hH (w:=w) hp;have hO:=ZY N.toa8 0 (by omega);simp only at ht me re;generalize E6 w y=v at *;unfold VO at hN;by_cases hf:FT w v
  ·rw[if_pos hf]at hN
   have eb:=me hf;by_cases hv:v=0
   ·rw[if_pos hv,List.append_nil]at ht
    (repeat' ((first|(apply BB<;>intro hc<;>try omega)|(apply BS;omega)|apply BR|(refine CT (by assumption) ?_ rfl ?_;omega)|apply A7|refine AY (hN) ?_)<;>conv=>whnf))
    rw[<-ht];exact D0 [] (ih (j+1) (by omega) ⟨by omega,eb⟩)
   ·rw[if_neg hv]at ht
    generalize E8 w ((DJ row x).take j)=T0 at *;(repeat' ((first|(apply BB<;>intro hc<;>try omega)|(apply BS;omega)|apply BR|(refine CT (by assumption) ?_ rfl ?_;omega)|apply FM|apply A7|refine AY (hN) ?_)<;>conv=>whnf))
    refine G3 (enc:=OE) ((j:Int)+1,v) (by simp only[OE];rw[Int.add_comm]) rfl rfl (by omega) (by omega) ?_;rw[<-ht];(conv=>whnf)
    (repeat' ((first|(apply BS;omega)|fail)<;>conv=>whnf))
    exact D0 [(8,46)] (ih (j+1) (by omega) ⟨by omega,eb⟩)
  ·rw[if_neg hf]at hN
   rw[re hf];(repeat' ((first|(apply BB<;>intro hc<;>try omega)|(apply BS;omega)|apply BR|(refine CT (by assumption) ?_ rfl ?_;omega)|apply A7|refine AY (hN) ?_)<;>conv=>whnf))
   exact BU rfl (by simp [B4,DN,GF])
 by_cases Cv:j=row.length
 ·subst Cv
  have hp:=tS (row:=row) (x:=x);have hN:=hE x hx;have ht:=jW (w:=w) hp;have me:=js _ hp;have re:=hH (w:=w) hp;simp only at ht me re;generalize E6 w x=v at *;unfold VO at hN;by_cases hf:FT w v
  ·rw[if_pos hf]at hN
   have eb:=me hf;by_cases hv:v=0
   ·rw[if_pos hv,List.append_nil]at ht
    (repeat' ((first|(apply BB<;>intro hc<;>try omega)|(apply BS;omega)|apply BR|apply A7|refine AY (hN) ?_)<;>conv=>whnf))
    rw[<-ht];exact D0 [] (ih (row.length+1) (by omega) ⟨by omega,eb⟩)
   ·rw[if_neg hv]at ht
    generalize E8 w ((DJ row x).take row.length)=T0 at *;(repeat' ((first|(apply BB<;>intro hc<;>try omega)|apply BR|apply FM|apply A7|refine AY (hN) ?_)<;>conv=>whnf))
    refine G3 (enc:=OE) (0,v) rfl rfl rfl (by omega) (by omega) ?_;rw[<-ht];(conv=>whnf)
    (repeat' ((first|(apply BS;omega)|fail)<;>conv=>whnf))
    exact D0 [(8,46)] (ih (row.length+1) (by omega) ⟨by omega,eb⟩)
  ·rw[if_neg hf]at hN
   rw[re hf];(repeat' ((first|(apply BB<;>intro hc<;>try omega)|apply BR|apply A7|refine AY (hN) ?_)<;>conv=>whnf))
   exact BU rfl (by simp [B4,DN,GF])
 ·obtain rfl:j=row.length+1:=by omega
  clear ih;rw[zT (by omega)]at p2;rw[zT (by omega),p2,if_pos rfl];generalize E8 w (DJ row x)=T at *;(repeat' ((first|(apply BB<;>intro hc<;>try omega)|apply BR|(refine GR (λ_=>rfl) rfl ?_ ?_;(first|rfl|simp))|apply A7)<;>conv=>whnf))
  exact BU rfl (by simp only[B4,DN,true_and,and_true];exact lN _)
theorem nR (I:g9 L) (N:w8 L) (w:Wd) (hw:WV w) (row:List Rat) (x:Rat) (q:Bool) (hr : ∀ y∈row,J8 w y) (hx:J8 w x) (hn:row.length<=64) (hO : ∀ y,J8 w y->(E6 w y).natAbs<4294967296) :
  Ev L 388 [.sl q (row.map eQ),.agg (eQ x),.agg (EO w)] (if GC w (DJ row x) then .g8 [.agg [.sl false ((E8 w (DJ row x)).map OE)],.bool true] else .g8 [.agg [.sl false []],.bool false]):=by
 have n8:=lK row x;have hE : ∀ y,J8 w y->Ev L 385 [.agg (EO w),.agg (eQ y)] (VO w (E6 w y)):=λ y hy=>Afo I N.toae w hw y 30 hy.1 (by omega) (hO y hy)
 refine Ev.x N.UR rfl rfl ?_;(repeat' ((first|(apply BS;omega)|apply BR|apply A7)<;>conv=>whnf))
 refine PL (λ j _=>row.length+1-j) (λ(j:Nat) (fl:Bool)=>j<=row.length+1/\GC w ((DJ row x).take j)=true/\fl=decide (E8 w ((DJ row x).take j)=[])) (λ j _=>[(17,.int .i64 j)]) (λ j fl=>bif fl then [] else [(8,8,.bx [.row 1000 0 2 0 (E8 w ((DJ row x).take j)).length]),(1000,48,.rw 2 ((E8 w ((DJ row x).take j)).map OE))]) 0 true ⟨by omega,rfl,rfl⟩ ?_;intro j fl ⟨p1,p2,p3⟩ ih;have js : ∀ p:Int × Rat,(DJ row x)[j]? = some p->(FT w (E6 w p.2)->GC w ((DJ row x).take (j+1))=true):=λ p h hf=>by
  rw[xT h,p2,decide_eq_true hf];rfl
 have l8:(E8 w ((DJ row x).take j)).length<=65:=by
  have:=rM w ((DJ row x).take j)
  rw[List.length_take]at this;omega
 by_cases hj:j<row.length
 ·obtain ⟨y,hy⟩ : ∃ y,row[j]? = some y:=⟨_,zE (by omega)⟩
  have Dh:row[(j:Int).toNat]? = some y:=hy;have hp:=tR (x:=x) hy;have hN:=hE y (hr y (zM hy));have ht:=jW (w:=w) hp;have me:=js _ hp;have re:=hH (w:=w) hp;simp only at ht me re;generalize E6 w y=v at *;unfold VO at hN;by_cases hf:FT w v
  ·rw[if_pos hf]at hN
   have eb:=me hf;by_cases hv:v=0
   ·rw[if_pos hv,List.append_nil]at ht
    cases fl
    ·(repeat' ((first|(apply BB<;>intro hc<;>try omega)|(apply BS;omega)|apply BR|(refine CT (by assumption) ?_ rfl ?_;omega)|apply A7|refine AY (hN) ?_)<;>conv=>whnf))
     rw[<-ht];exact D0 [] (ih (j+1) false (by omega) ⟨by omega,eb,by rw[ht];exact p3⟩)
    ·(repeat' ((first|(apply BB<;>intro hc<;>try omega)|(apply BS;omega)|apply BR|(refine CT (by assumption) ?_ rfl ?_;omega)|apply A7|refine AY (hN) ?_)<;>conv=>whnf))
     exact D0 [] (ih (j+1) true (by omega) ⟨by omega,eb,by rw[ht];exact p3⟩)
   ·rw[if_neg hv]at ht
    have m7:false=decide (E8 w ((DJ row x).take (j+1))=[]):=by rw[ht];simp
    generalize E8 w ((DJ row x).take j)=T0 at *;cases fl
    ·(repeat' ((first|(apply BB<;>intro hc<;>try omega)|(apply BS;omega)|apply BR|(refine CT (by assumption) ?_ rfl ?_;omega)|apply FM|apply A7|refine AY (hN) ?_)<;>conv=>whnf))
     refine G3 (enc:=OE) ((j:Int)+1,v) rfl rfl rfl (by omega) (by omega) ?_;rw[<-ht];(conv=>whnf)
     (repeat' ((first|(apply BS;omega)|fail)<;>conv=>whnf))
     exact D0 [(1000,48)] (ih (j+1) false (by omega) ⟨by omega,eb,m7⟩)
    ·obtain rfl:T0=[]:=of_decide_eq_true p3.symm
     (repeat' ((first|(apply BB<;>intro hc<;>try omega)|(apply BS;omega)|apply BR|(refine CT (by assumption) ?_ rfl ?_;omega)|apply FM|apply A7|refine AY (hN) ?_)<;>conv=>whnf))
     refine LC (enc:=OE) (l:=[((j:Int)+1,v)]) (λ_=>rfl) (by simp) (by simp) ?_;rw[show [(((j:Int)+1,v):Int × Int)]=E8 w ((DJ row x).take (j+1)) by rw[ht];rfl];(conv=>whnf)
     (repeat' ((first|(apply BS;omega)|fail)<;>conv=>whnf))
     exact D0 [(1000,48)] (ih (j+1) false (by omega) ⟨by omega,eb,m7⟩)
  ·rw[if_neg hf]at hN
   rw[re hf];cases fl
   ·(repeat' ((first|(apply BB<;>intro hc<;>try omega)|(apply BS;omega)|apply BR|(refine CT (by assumption) ?_ rfl ?_;omega)|apply A7|refine AY (hN) ?_)<;>conv=>whnf))
    exact BU rfl (by simp [B4,DN,GF])
   ·(repeat' ((first|(apply BB<;>intro hc<;>try omega)|(apply BS;omega)|apply BR|(refine CT (by assumption) ?_ rfl ?_;omega)|apply A7|refine AY (hN) ?_)<;>conv=>whnf))
    exact BU rfl (by simp [B4,DN,GF])
 by_cases Cv:j=row.length
 ·subst Cv
  have hp:=tS (row:=row) (x:=x);have hN:=hE x hx;have ht:=jW (w:=w) hp;have me:=js _ hp;have re:=hH (w:=w) hp;simp only at ht me re;generalize E6 w x=v at *;unfold VO at hN;by_cases hf:FT w v
  ·rw[if_pos hf]at hN
   have eb:=me hf;by_cases hv:v=0
   ·rw[if_pos hv,List.append_nil]at ht
    cases fl
    ·(repeat' ((first|(apply BB<;>intro hc<;>try omega)|(apply BS;omega)|apply BR|apply A7|refine AY (hN) ?_)<;>conv=>whnf))
     rw[<-ht];exact D0 [] (ih (row.length+1) false (by omega) ⟨by omega,eb,by rw[ht];exact p3⟩)
    ·(repeat' ((first|(apply BB<;>intro hc<;>try omega)|(apply BS;omega)|apply BR|apply A7|refine AY (hN) ?_)<;>conv=>whnf))
     exact D0 [] (ih (row.length+1) true (by omega) ⟨by omega,eb,by rw[ht];exact p3⟩)
   ·rw[if_neg hv]at ht
    have m7:false=decide (E8 w ((DJ row x).take (row.length+1))=[]):=by rw[ht];simp
    generalize E8 w ((DJ row x).take row.length)=T0 at *;cases fl
    ·(repeat' ((first|(apply BB<;>intro hc<;>try omega)|apply BR|apply FM|apply A7|refine AY (hN) ?_)<;>conv=>whnf))
     refine G3 (enc:=OE) (0,v) rfl rfl rfl (by omega) (by omega) ?_;rw[<-ht];(conv=>whnf)
     (repeat' ((first|(apply BS;omega)|fail)<;>conv=>whnf))
     exact D0 [(1000,48)] (ih (row.length+1) false (by omega) ⟨by omega,eb,m7⟩)
    ·obtain rfl:T0=[]:=of_decide_eq_true p3.symm
     (repeat' ((first|(apply BB<;>intro hc<;>try omega)|apply BR|apply FM|apply A7|refine AY (hN) ?_)<;>conv=>whnf))
     refine LC (enc:=OE) (l:=[(0,v)]) (λ_=>rfl) (by simp) (by simp) ?_;rw[show [((0,v):Int × Int)]=E8 w ((DJ row x).take (row.length+1)) by rw[ht];rfl];(conv=>whnf)
     (repeat' ((first|(apply BS;omega)|fail)<;>conv=>whnf))
     exact D0 [(1000,48)] (ih (row.length+1) false (by omega) ⟨by omega,eb,m7⟩)
  ·rw[if_neg hf]at hN
   rw[re hf];cases fl
   ·(repeat' ((first|(apply BB<;>intro hc<;>try omega)|apply BR|apply A7|refine AY (hN) ?_)<;>conv=>whnf))
    exact BU rfl (by simp [B4,DN,GF])
   ·(repeat' ((first|(apply BB<;>intro hc<;>try omega)|apply BR|apply A7|refine AY (hN) ?_)<;>conv=>whnf))
    exact BU rfl (by simp [B4,DN,GF])
 ·obtain rfl:j=row.length+1:=by omega
  clear ih;rw[zT (by omega)]at p2 p3 l8;rw[zT (by omega),p2,if_pos rfl];generalize E8 w (DJ row x)=T at *;cases fl
  ·(repeat' ((first|(apply BB<;>intro hc<;>try omega)|(refine GR (λ_=>rfl) rfl ?_ ?_;(first|rfl|simp))|apply A7)<;>conv=>whnf))
   exact BU rfl (by simp only[B4,DN,true_and,and_true];exact lN _)
  ·obtain rfl:T=[]:=of_decide_eq_true p3.symm
   (repeat' ((first|(apply BB<;>intro hc<;>try omega)|apply A7)<;>conv=>whnf))
   exact BU rfl (by simp [B4,DN,GF])
abbrev OD (q:Bool) (S:EV):List AV:=[.sl (q && !S.a.isEmpty) (S.a.map λ r=>[AV.sl q (r.map eQ)]),.sl q (S.b.map eQ),.sl q (S.c.map eQ)]++eQ S.d
theorem Afk (N:ax L) (S:EV) (n k:Nat) (q:Bool) (h:S.Ok n k) (hn:n<=64):Ev L 130 [.agg (OD q S)] (.bool true):=by
 have h1:=h.la;have h2:=h.lb;have h3:=h.lc;refine Ev.x N.SC rfl rfl ?_;(repeat' ((first|(apply BB<;>intro hc<;>try omega)|apply BR|apply A7)<;>conv=>whnf))
 refine HC (λ i=>S.a.length-i) (λ(i:Nat)=>i<=S.a.length) (λ i=>[(28,.int .i64 i)]) (λ_=>[]) 0 (by omega) ?_;intro i p1 ih;by_cases hi:i<S.a.length
 ·obtain ⟨r,hr⟩ : ∃ r,S.a[i]? = some r:=⟨_,zE hi⟩
  have Fo:S.a[(i:Int).toNat]? = some r:=hr;have Ft:=h.lr r (zM hr);(repeat' ((first|(apply BB<;>intro hc<;>try omega)|(apply BS;omega)|apply BR|(refine CT (by assumption) ?_ rfl ?_;omega)|apply A7)<;>conv=>whnf))
  exact D0 [] (ih (i+1) (by omega) (by omega))
 ·obtain rfl:i=S.a.length:=by omega
  clear ih;(repeat' ((first|(apply BB<;>intro hc<;>try omega)|apply A7)<;>conv=>whnf))
  exact H8 rfl
theorem Afj (N:ax L) (S:EV) (n k:Nat) (q:Bool) (h:S.Ok n k) (hn:n<=64):Ev L 136 [.agg (OD q S)] (.bool true):=by
 have h1:=h.la;have h2:=h.lb;have h3:=h.lc;refine Ev.x N.UF rfl rfl ?_;(repeat' ((first|(apply BB<;>intro hc<;>try omega)|apply BR|apply A7)<;>conv=>whnf))
 refine HC (λ i=>S.a.length-i) (λ(i:Nat)=>i<=S.a.length) (λ i=>[(4,.int .i64 i)]) (λ_=>[]) 0 (by omega) ?_;intro i p1 ih;by_cases hi:i<S.a.length
 ·obtain ⟨r,hr⟩ : ∃ r,S.a[i]? = some r:=⟨_,zE hi⟩
  have Fo:S.a[(i:Int).toNat]? = some r:=hr;have Ft:=h.lr r (zM hr);(repeat' ((first|(apply BB<;>intro hc<;>try omega)|(apply BS;omega)|apply BR|(refine CT (by assumption) ?_ rfl ?_;omega)|apply A7)<;>conv=>whnf))
  exact D0 [] (ih (i+1) (by omega) (by omega))
 ·obtain rfl:i=S.a.length:=by omega
  clear ih;(repeat' ((first|(apply BB<;>intro hc<;>try omega)|apply A7)<;>conv=>whnf))
  exact H8 rfl
theorem xA (N:bj L) (S:EV) (n k:Nat) (q:Bool) (h:S.Ok n k) (hn:n<=16):Ev L 281 [.agg (OD q S)] (.bool true):=by
 have Ij:=Afk N.toax S n k q h (by omega);have Bi:=h.la;refine Ev.x N.UQ rfl rfl ?_;(repeat' ((first|(apply BB<;>intro hc<;>try omega)|apply BR|apply A7|refine AY (Ij) ?_)<;>conv=>whnf))
 exact H8 rfl
theorem wZ (N:bj L) (S:EV) (n k:Nat) (q:Bool) (h:S.Ok n k) (hn:n<=16):Ev L 284 [.agg (OD q S)] (.bool true):=by
 have Ij:=Afj N.toax S n k q h (by omega);have Bi:=h.la;refine Ev.x N.UG rfl rfl ?_;(repeat' ((first|(apply BB<;>intro hc<;>try omega)|apply BR|apply A7|refine AY (Ij) ?_)<;>conv=>whnf))
 exact H8 rfl
def rB (S:EV) (n i:Nat):List Rat:=if i<n then S.a.getD i [] else S.c
def xB (S:EV) (n i:Nat):Rat:=if i<n then S.b.getD i 0 else S.d
def cB (S:EV) (n i:Nat):List (Int × Rat):=DJ (rB S n i) (xB S n i)
theorem QR {S:EV} {n i:Nat} {r:List Rat} (h:S.a[i]? = some r) (hi:i<n):rB S n i=r:=by
 rw[rB,if_pos hi,List.getD_eq_getElem?_getD,h];rfl
theorem QU {S:EV} {n i:Nat} {b:Rat} (h:S.b[i]? = some b) (hi:i<n):xB S n i=b:=by
 rw[xB,if_pos hi,List.getD_eq_getElem?_getD,h];rfl
theorem VP (S:EV) (n:Nat):rB S n n=S.c:=by rw[rB,if_neg (by omega)]
theorem VX (S:EV) (n:Nat):xB S n n=S.d:=by rw[xB,if_neg (by omega)]
def GM (S:EV) (c:Wd) (n k:Nat):List Nd:=(List.range k).map λ i=>⟨false,E8 c (cB S n i)⟩
def HX (n k:Nat):List Int:=(List.range k).map λ i:Nat=>1+(n:Int)+i
theorem iJ (S:EV) (c:Wd) (n k:Nat):GM S c n (k+1)=GM S c n k++[⟨false,E8 c (cB S n k)⟩]:=by simp [GM,List.range_succ]
theorem Oe (n k:Nat):HX n (k+1)=HX n k++[1+(n:Int)+k]:=by simp [HX,List.range_succ]
def EF (S:EV) (d c:Wd) (n:Nat):Nt:=⟨d,c,n,false,GM S c n (n+1),false,HX n n,1+(n:Int)+n⟩
def JT (S:EV) (c:Wd) (n:Nat):Bool:=(List.range (n+1)).all λ i=>GC c (cB S n i)
theorem Z6 {S:EV} {c:Wd} {n:Nat}:JT S c n=true ↔ ∀ m,m<n+1->GC c (cB S n m)=true:=by
 simp [JT,List.all_eq_true]
theorem gB (S:EV) (d c:Wd) (n:Nat):B4 (.g8 [.agg (HJ (EF S d c n)),.int .i64 0]):=by
 simp only[B4,DN,and_true,true_and];refine ⟨⟨rfl,lM _ λ e he => ?_⟩,rfl,uD _⟩;simp only[EF,GM,List.mem_map]at he;obtain ⟨i,_,rfl⟩:=he;rfl
abbrev ZH:List AV:=[.int .i64 0,.int .i64 0,.int .i64 0,.int .i64 0,.int .i64 0,.int .i64 0,.int .i64 0,.int .i64 0,.int .i64 0,.sl false [],.sl false [],.int .i64 0]
theorem W8 (e:Int):B4 (.g8 [.agg ZH,.int .i64 e]):=by simp [B4,DN,GF]
structure X4 (S:EV) (w:Wd):Prop where
 a : ∀ r∈S.a,∀ y∈r,J8 w y
 b : ∀ y∈S.b,J8 w y
 c : ∀ y∈S.c,J8 w y
 d:J8 w S.d
theorem Af5 (I:g9 L) (N:w8 L) (S:EV) (q:Bool) (d c:Wd) (hd:WV d) (hc:WV c) (n k:Nat) (hS:S.Ok n k) (hn:n<=3) (xu:n≠0) (hk:k<=1000000) (cp:X4 S c) (hO : ∀ y,J8 c y->(E6 c y).natAbs<4294967296) :
  Ev L 389 [.agg (OD q S),.agg (EO d),.agg (EO c)] (if JT S c n then .g8 [.agg (HJ (EF S d c n)),.int .i64 0] else .g8 [.agg ZH,.int .i64 17]):=by
 have qt:=M4 d I;have qu:=M4 c I;rw[decide_eq_true hd]at qt;rw[decide_eq_true hc]at qu;have wx:=xA N.tobj S n k q hS (by omega);obtain rfl:=hS.la;have hlb:=hS.lb;have kp:=hS.lc;have om : ∀ i,i<=S.a.length -> ∀ q,Ev L 388 [.sl q ((rB S S.a.length i).map eQ),.agg (eQ (xB S S.a.length i)),.agg (EO c)] (if GC c (DJ (rB S S.a.length i) (xB S S.a.length i)) then .g8 [.agg [.sl false ((E8 c (DJ (rB S S.a.length i) (xB S S.a.length i))).map OE)],.bool true] else .g8 [.agg [.sl false []],.bool false]):=λ i hi q=>by
  by_cases h:i<S.a.length
  ·obtain ⟨r,hr⟩ : ∃ r,S.a[i]? = some r:=⟨_,zE (by omega)⟩
   obtain ⟨b,hb⟩ : ∃ b,S.b[i]? = some b:=⟨_,zE (by omega)⟩;rw[QR hr h,QU hb h];exact nR I N c hc r b q (cp.a r (zM hr)) (cp.b b (zM hb)) (by have:=hS.lr r (zM hr);omega) hO
  ·obtain rfl:i=S.a.length:=by omega
   rw[VP,VX];exact nR I N c hc S.c S.d q cp.c cp.d (by omega) hO
 refine Ev.x N.O7 rfl rfl ?_;(repeat' ((first|(apply BS;omega)|apply BR|apply A7|refine AY (qt) ?_|refine AY (qu) ?_|refine AY (wx) ?_)<;>conv=>whnf))
 refine PL (λ i _=>S.a.length+1-i) (λ(i:Nat) (fl:Bool)=>i<=S.a.length+1/\(∀ m,m<i->GC c (cB S S.a.length m)=true)/\fl=decide (i=0)) (λ i _=>[(38,.int .i64 i)]) (λ i fl=>bif fl then [] else [(9,9,.bx [.int .i64 d.b,.int .i64 d.f,.int .i64 d.r,.int .i64 d.o,.int .i64 c.b,.int .i64 c.f,.int .i64 c.r,.int .i64 c.o,.int .i64 S.a.length,.row 1000 0 1 0 i,.row 2000 0 1 0 (min i S.a.length),.int .i64 0]),(1000,81,.rw 1 ((GM S c S.a.length i).map KC)),(2000,65,.rw 1 ((HX S.a.length (min i S.a.length)).map GJ))]) 0 true ⟨by omega,λ m h=>absurd h (by omega),rfl⟩ ?_;intro i fl ⟨p1,p2,p3⟩ ih;have bl : ∀ m,(GM S c S.a.length m).length=m:=λ m=>by simp [GM]
 have gn : ∀ m,(HX S.a.length m).length=m:=λ m=>by simp [HX]
 have mg:=iJ S c S.a.length i;have Bl:=Oe S.a.length i;by_cases Cu:i=S.a.length+1
 ·obtain rfl:fl=false:=by rw[p3];exact decide_eq_false (by omega)
  have oo:JT S c S.a.length=true:=Z6.2 λ m hm=>p2 m (by omega)
  clear ih;rw[oo,if_pos rfl];have jr:=bl i;have jd:=gn (min i S.a.length);have n8:=gB S d c S.a.length;have xh:HJ (EF S d c S.a.length)=[.int .i64 d.b,.int .i64 d.f,.int .i64 d.r,.int .i64 d.o,.int .i64 c.b,.int .i64 c.f,.int .i64 c.r,.int .i64 c.o,.int .i64 S.a.length,.sl false ((GM S c S.a.length (S.a.length+1)).map KC),.sl false ((HX S.a.length S.a.length).map GJ),.int .i64 (1+(S.a.length:Int)+S.a.length)]:=rfl;rw[xh]at n8 ⊢;rw[show min i S.a.length=S.a.length by omega]at *;rw[Cu]at jr ⊢;generalize GM S c S.a.length (S.a.length+1)=A at *;generalize HX S.a.length S.a.length=B at *;(repeat' ((first|(apply BB<;>intro hc<;>try omega)|(apply BS;omega)|apply A7)<;>conv=>whnf))
  refine GR (enc:=KC) (λ_=>rfl) rfl jr.symm ?_;(conv=>whnf)
  refine GR (enc:=GJ) (λ_=>rfl) rfl jd.symm ?_;(conv=>whnf)
  exact BU rfl n8
 have df:=om i (by omega);have ka:GC c (cB S S.a.length i)=true -> ∀ m,m<i+1->GC c (cB S S.a.length m)=true:=λ h m hm=>by
  by_cases e:m=i
  ·rw[e];exact h
  ·exact p2 m (by omega)
 have ua:GC c (cB S S.a.length i)≠true->JT S c S.a.length=false:=λ h=>by
  rw[<-Bool.not_eq_true];exact λ g=>h (Z6.1 g i (by omega))
 have ox:false=decide (i+1=0):=by simp
 by_cases hi:i<S.a.length
 ·obtain ⟨r,hr⟩ : ∃ r,S.a[i]? = some r:=⟨_,zE (by omega)⟩
  obtain ⟨b,hb⟩ : ∃ b,S.b[i]? = some b:=⟨_,zE (by omega)⟩;have Fo:S.a[(i:Int).toNat]? = some r:=hr;have l7:S.b[(i:Int).toNat]? = some b:=hb;rw[QR hr hi,QU hb hi]at df;by_cases hf:GC c (cB S S.a.length i)=true
  ·have xo:=ka hf
   rw[cB,QR hr hi,QU hb hi]at hf;rw[hf,if_pos rfl]at df;have e:cB S S.a.length i=DJ r b:=by rw[cB,QR hr hi,QU hb hi]
   rw[e]at mg;generalize E8 c (DJ r b)=T at *;cases fl
   ·(repeat' ((first|(apply BB<;>intro hc<;>try omega)|(apply BS;omega)|(refine CT (by assumption) ?_ rfl ?_;omega)|apply FM|apply A7)<;>conv=>whnf))
    refine G3 (enc:=GJ) (1+(S.a.length:Int)+i) rfl (by rw[gn]) rfl (by rw[gn];omega) (by rw[gn];omega) ?_;rw[show min i S.a.length=i by omega,<-Bl,gn];(conv=>whnf)
    (repeat' ((first|apply FM|refine AY (df _) ?_)<;>conv=>whnf))
    refine G3 (enc:=KC) ⟨false,T⟩ rfl (by rw[bl]) rfl (by rw[bl];omega) (by rw[bl];omega) ?_;rw[<-mg,bl];(conv=>whnf)
    (repeat' ((first|(apply BS;omega)|fail)<;>conv=>whnf))
    exact C5 [(1000,81),(2000,65)] (by rw[show min (i+1) S.a.length=i+1 by omega];exact (by (conv=>whnf);exact ⟨rfl,rfl,rfl⟩)) (ih (i+1) false (by omega) ⟨by omega,xo,ox⟩)
   ·obtain rfl:i=0:=of_decide_eq_true p3.symm
    (repeat' ((first|(apply BB<;>intro hc<;>try omega)|(apply BS;omega)|(refine CT (by assumption) ?_ rfl ?_;omega)|apply FM|apply A7)<;>conv=>whnf))
    refine LC (enc:=GJ) (l:=[1+(S.a.length:Int)+((0:Nat):Int)]) (λ_=>rfl) (by simp) (by simp) ?_;rw[show [1+(S.a.length:Int)+((0:Nat):Int)]=HX S.a.length (0+1) from Bl.symm,gn];(conv=>whnf)
    (repeat' ((first|apply FM|refine AY (df _) ?_)<;>conv=>whnf))
    refine LC (enc:=KC) (l:=[⟨false,T⟩]) (λ_=>rfl) (by simp) (by simp) ?_;rw[show [(⟨false,T⟩:Nd)]=GM S c S.a.length (0+1) from mg.symm,bl];(conv=>whnf)
    (repeat' ((first|(apply BS;omega)|fail)<;>conv=>whnf))
    exact C5 [(1000,81),(2000,65)] (by rw[show min (0+1) S.a.length=0+1 by omega];exact (by (conv=>whnf);exact ⟨rfl,rfl,rfl⟩)) (ih (0+1) false (by omega) ⟨by omega,xo,ox⟩)
  ·rw[ua hf,if_neg (by simp)]
   rw[cB,QR hr hi,QU hb hi]at hf;rw[if_neg hf]at df;cases fl
   ·(repeat' ((first|(apply BB<;>intro hc<;>try omega)|(apply BS;omega)|(refine CT (by assumption) ?_ rfl ?_;omega)|apply FM|apply A7)<;>conv=>whnf))
    refine G3 (enc:=GJ) (1+(S.a.length:Int)+i) rfl (by rw[gn]) rfl (by rw[gn];omega) (by rw[gn];omega) ?_;(conv=>whnf)
    (repeat' (refine AY (df _) ?_<;>conv=>whnf))
    exact BU rfl (W8 17)
   ·obtain rfl:i=0:=of_decide_eq_true p3.symm
    (repeat' ((first|(apply BB<;>intro hc<;>try omega)|(apply BS;omega)|(refine CT (by assumption) ?_ rfl ?_;omega)|apply FM|apply A7)<;>conv=>whnf))
    refine LC (enc:=GJ) (l:=[1+(S.a.length:Int)+((0:Nat):Int)]) (λ_=>rfl) (by simp) (by simp) ?_;(conv=>whnf)
    (repeat' (refine AY (df _) ?_<;>conv=>whnf))
    exact BU rfl (W8 17)
 ·have uo:i=S.a.length:=by omega
  obtain rfl:fl=false:=by rw[p3];exact decide_eq_false (by omega)
  have xi:rB S S.a.length i=S.c:=by rw[uo,VP]
  have qw:xB S S.a.length i=S.d:=by rw[uo,VX]
  rw[xi,qw]at df;by_cases hf:GC c (cB S S.a.length i)=true
  ·have xo:=ka hf
   rw[cB,xi,qw]at hf;rw[hf,if_pos rfl]at df;have e:cB S S.a.length i=DJ S.c S.d:=by rw[cB,xi,qw]
   rw[e]at mg;generalize E8 c (DJ S.c S.d)=T at *;(repeat' ((first|(apply BB<;>intro hc<;>try omega)|apply FM|apply A7|refine AY (df _) ?_)<;>conv=>whnf))
   refine G3 (enc:=KC) ⟨false,T⟩ rfl (by rw[bl]) rfl (by rw[bl];omega) (by rw[bl];omega) ?_;rw[<-mg,bl];(conv=>whnf)
   (repeat' ((first|(apply BS;omega)|fail)<;>conv=>whnf))
   exact C5 [(1000,81)] (by rw[show min (i+1) S.a.length=min i S.a.length by omega];exact (by (conv=>whnf);exact ⟨rfl,rfl,rfl⟩)) (ih (i+1) false (by omega) ⟨by omega,xo,ox⟩)
  ·rw[ua hf,if_neg (by simp)]
   rw[cB,xi,qw]at hf;rw[if_neg hf]at df;(repeat' ((first|(apply BB<;>intro hc<;>try omega)|apply A7|refine AY (df _) ?_)<;>conv=>whnf))
   exact BU rfl (W8 17)
theorem AfU (I:g9 L) (N:w8 L) (S:EV) (q:Bool) (d c:Wd) (hd:WV d) (hc:WV c) (n k:Nat) (hS:S.Ok n k) (hn:n<=3) (xu:n≠0) (hk:k<=1000000) (cp:X4 S c) :
  Ev L 391 [.agg (OD q S),.agg (EO d),.agg (EO c)] (if JT S c n then .g8 [.agg (HJ (EF S d c n)),.int .i64 0] else .g8 [.agg ZH,.int .i64 17]):=by
 have qt:=Q4 d I;have qu:=Q4 c I;rw[decide_eq_true hd]at qt;rw[decide_eq_true hc]at qu;have wx:=wZ N.tobj S n k q hS (by omega);obtain rfl:=hS.la;have hlb:=hS.lb;have kp:=hS.lc;have om : ∀ i,i<=S.a.length -> ∀ q,Ev L 390 [.sl q ((rB S S.a.length i).map eQ),.agg (eQ (xB S S.a.length i)),.agg (EO c)] (if GC c (DJ (rB S S.a.length i) (xB S S.a.length i)) then .g8 [.sl false ((E8 c (DJ (rB S S.a.length i) (xB S S.a.length i))).map OE),.bool true] else .g8 [.sl false [],.bool false]):=λ i hi q=>by
  by_cases h:i<S.a.length
  ·obtain ⟨r,hr⟩ : ∃ r,S.a[i]? = some r:=⟨_,zE (by omega)⟩
   obtain ⟨b,hb⟩ : ∃ b,S.b[i]? = some b:=⟨_,zE (by omega)⟩;rw[QR hr h,QU hb h];exact nS I N c hc r b q (cp.a r (zM hr)) (cp.b b (zM hb)) (by have:=hS.lr r (zM hr);omega)
  ·obtain rfl:i=S.a.length:=by omega
   rw[VP,VX];exact nS I N c hc S.c S.d q cp.c cp.d (by omega)
 refine Ev.x N.O2 rfl rfl ?_;(repeat' ((first|(apply BS;omega)|apply BR|apply A7|refine AY (qt) ?_|refine AY (qu) ?_|refine AY (wx) ?_)<;>conv=>whnf))
 refine PL (λ i _=>S.a.length+1-i) (λ(i:Nat) (fl:Bool)=>i<=S.a.length+1/\(∀ m,m<i->GC c (cB S S.a.length m)=true)/\fl=decide (i=0)) (λ i _=>[(10,.int .i64 i)]) (λ i fl=>bif fl then [] else [(9,9,.bx [.int .i64 d.b,.int .i64 d.f,.int .i64 d.r,.int .i64 d.o,.int .i64 c.b,.int .i64 c.f,.int .i64 c.r,.int .i64 c.o,.int .i64 S.a.length,.row 1000 0 1 0 i,.row 2000 0 1 0 (min i S.a.length),.int .i64 (1+(S.a.length:Int)+S.a.length)]),(1000,86,.rw 1 ((GM S c S.a.length i).map KC)),(2000,69,.rw 1 ((HX S.a.length (min i S.a.length)).map GJ))]) 0 true ⟨by omega,λ m h=>absurd h (by omega),rfl⟩ ?_;intro i fl ⟨p1,p2,p3⟩ ih;have bl : ∀ m,(GM S c S.a.length m).length=m:=λ m=>by simp [GM]
 have gn : ∀ m,(HX S.a.length m).length=m:=λ m=>by simp [HX]
 have mg:=iJ S c S.a.length i;have Bl:=Oe S.a.length i;by_cases Cu:i=S.a.length+1
 ·obtain rfl:fl=false:=by rw[p3];exact decide_eq_false (by omega)
  have oo:JT S c S.a.length=true:=Z6.2 λ m hm=>p2 m (by omega)
  clear ih;rw[oo,if_pos rfl];have jr:=bl i;have jd:=gn (min i S.a.length);have n8:=gB S d c S.a.length;have xh:HJ (EF S d c S.a.length)=[.int .i64 d.b,.int .i64 d.f,.int .i64 d.r,.int .i64 d.o,.int .i64 c.b,.int .i64 c.f,.int .i64 c.r,.int .i64 c.o,.int .i64 S.a.length,.sl false ((GM S c S.a.length (S.a.length+1)).map KC),.sl false ((HX S.a.length S.a.length).map GJ),.int .i64 (1+(S.a.length:Int)+S.a.length)]:=rfl;rw[xh]at n8 ⊢;rw[show min i S.a.length=S.a.length by omega]at *;rw[Cu]at jr ⊢;generalize GM S c S.a.length (S.a.length+1)=A at *;generalize HX S.a.length S.a.length=B at *;(repeat' ((first|(apply BB<;>intro hc<;>try omega)|apply A7)<;>conv=>whnf))
  refine GR (enc:=KC) (λ_=>rfl) rfl jr.symm ?_;(conv=>whnf)
  refine GR (enc:=GJ) (λ_=>rfl) rfl jd.symm ?_;(conv=>whnf)
  exact BU rfl n8
 have df:=om i (by omega);have ka:GC c (cB S S.a.length i)=true -> ∀ m,m<i+1->GC c (cB S S.a.length m)=true:=λ h m hm=>by
  by_cases e:m=i
  ·rw[e];exact h
  ·exact p2 m (by omega)
 have ua:GC c (cB S S.a.length i)≠true->JT S c S.a.length=false:=λ h=>by
  rw[<-Bool.not_eq_true];exact λ g=>h (Z6.1 g i (by omega))
 have ox:false=decide (i+1=0):=by simp
 by_cases hi:i<S.a.length
 ·obtain ⟨r,hr⟩ : ∃ r,S.a[i]? = some r:=⟨_,zE (by omega)⟩
  obtain ⟨b,hb⟩ : ∃ b,S.b[i]? = some b:=⟨_,zE (by omega)⟩;have Fo:S.a[(i:Int).toNat]? = some r:=hr;have l7:S.b[(i:Int).toNat]? = some b:=hb;rw[QR hr hi,QU hb hi]at df;by_cases hf:GC c (cB S S.a.length i)=true
  ·have xo:=ka hf
   rw[cB,QR hr hi,QU hb hi]at hf;rw[hf,if_pos rfl]at df;have e:cB S S.a.length i=DJ r b:=by rw[cB,QR hr hi,QU hb hi]
   rw[e]at mg;generalize E8 c (DJ r b)=T at *;cases fl
   ·(repeat' ((first|(apply BB<;>intro hc<;>try omega)|(apply BS;omega)|(refine CT (by assumption) ?_ rfl ?_;omega)|apply FM|apply A7)<;>conv=>whnf))
    refine G3 (enc:=GJ) (1+(S.a.length:Int)+i) rfl (by rw[gn]) rfl (by rw[gn];omega) (by rw[gn];omega) ?_;rw[show min i S.a.length=i by omega,<-Bl,gn];(conv=>whnf)
    (repeat' ((first|apply FM|refine AY (df _) ?_)<;>conv=>whnf))
    refine G3 (enc:=KC) ⟨false,T⟩ rfl (by rw[bl]) rfl (by rw[bl];omega) (by rw[bl];omega) ?_;rw[<-mg,bl];(conv=>whnf)
    (repeat' ((first|(apply BS;omega)|fail)<;>conv=>whnf))
    exact C5 [(1000,86),(2000,69)] (by rw[show min (i+1) S.a.length=i+1 by omega];exact (by (conv=>whnf);exact ⟨rfl,rfl,rfl⟩)) (ih (i+1) false (by omega) ⟨by omega,xo,ox⟩)
   ·obtain rfl:i=0:=of_decide_eq_true p3.symm
    (repeat' ((first|(apply BB<;>intro hc<;>try omega)|(apply BS;omega)|(refine CT (by assumption) ?_ rfl ?_;omega)|apply FM|apply A7)<;>conv=>whnf))
    refine LC (enc:=GJ) (l:=[1+(S.a.length:Int)+((0:Nat):Int)]) (λ_=>rfl) (by simp) (by simp) ?_;rw[show [1+(S.a.length:Int)+((0:Nat):Int)]=HX S.a.length (0+1) from Bl.symm,gn];(conv=>whnf)
    (repeat' ((first|apply FM|refine AY (df _) ?_)<;>conv=>whnf))
    refine LC (enc:=KC) (l:=[⟨false,T⟩]) (λ_=>rfl) (by simp) (by simp) ?_;rw[show [(⟨false,T⟩:Nd)]=GM S c S.a.length (0+1) from mg.symm,bl];(conv=>whnf)
    (repeat' ((first|(apply BS;omega)|fail)<;>conv=>whnf))
    exact C5 [(1000,86),(2000,69)] (by rw[show min (0+1) S.a.length=0+1 by omega];exact (by (conv=>whnf);exact ⟨rfl,rfl,rfl⟩)) (ih (0+1) false (by omega) ⟨by omega,xo,ox⟩)
  ·rw[ua hf,if_neg (by simp)]
   rw[cB,QR hr hi,QU hb hi]at hf;rw[if_neg hf]at df;cases fl
   ·(repeat' ((first|(apply BB<;>intro hc<;>try omega)|(apply BS;omega)|(refine CT (by assumption) ?_ rfl ?_;omega)|apply FM|apply A7)<;>conv=>whnf))
    refine G3 (enc:=GJ) (1+(S.a.length:Int)+i) rfl (by rw[gn]) rfl (by rw[gn];omega) (by rw[gn];omega) ?_;(conv=>whnf)
    (repeat' (refine AY (df _) ?_<;>conv=>whnf))
    exact BU rfl (W8 17)
   ·obtain rfl:i=0:=of_decide_eq_true p3.symm
    (repeat' ((first|(apply BB<;>intro hc<;>try omega)|(apply BS;omega)|(refine CT (by assumption) ?_ rfl ?_;omega)|apply FM|apply A7)<;>conv=>whnf))
    refine LC (enc:=GJ) (l:=[1+(S.a.length:Int)+((0:Nat):Int)]) (λ_=>rfl) (by simp) (by simp) ?_;(conv=>whnf)
    (repeat' (refine AY (df _) ?_<;>conv=>whnf))
    exact BU rfl (W8 17)
 ·have uo:i=S.a.length:=by omega
  obtain rfl:fl=false:=by rw[p3];exact decide_eq_false (by omega)
  have xi:rB S S.a.length i=S.c:=by rw[uo,VP]
  have qw:xB S S.a.length i=S.d:=by rw[uo,VX]
  rw[xi,qw]at df;by_cases hf:GC c (cB S S.a.length i)=true
  ·have xo:=ka hf
   rw[cB,xi,qw]at hf;rw[hf,if_pos rfl]at df;have e:cB S S.a.length i=DJ S.c S.d:=by rw[cB,xi,qw]
   rw[e]at mg;generalize E8 c (DJ S.c S.d)=T at *;(repeat' ((first|(apply BB<;>intro hc<;>try omega)|apply FM|apply A7|refine AY (df _) ?_)<;>conv=>whnf))
   refine G3 (enc:=KC) ⟨false,T⟩ rfl (by rw[bl]) rfl (by rw[bl];omega) (by rw[bl];omega) ?_;rw[<-mg,bl];(conv=>whnf)
   (repeat' ((first|(apply BS;omega)|fail)<;>conv=>whnf))
   exact C5 [(1000,86)] (by rw[show min (i+1) S.a.length=min i S.a.length by omega];exact (by (conv=>whnf);exact ⟨rfl,rfl,rfl⟩)) (ih (i+1) false (by omega) ⟨by omega,xo,ox⟩)
  ·rw[ua hf,if_neg (by simp)]
   rw[cB,xi,qw]at hf;rw[if_neg hf]at df;(repeat' ((first|(apply BB<;>intro hc<;>try omega)|apply A7|refine AY (df _) ?_)<;>conv=>whnf))
   exact BU rfl (W8 17)
theorem Af6 (I:g9 L) (N:w8 L) (S:EV) (q:Bool) (d c:Wd) (hd:WV d) (hc:WV c) (k:Nat) (hS:S.Ok 0 k) (hk:k<=1000000) (cp:X4 S c) (hO : ∀ y,J8 c y->(E6 c y).natAbs<4294967296) :
  Ev L 389 [.agg (OD q S),.agg (EO d),.agg (EO c)] (if JT S c 0 then .g8 [.agg (HJ (EF S d c 0)),.int .i64 0] else .g8 [.agg ZH,.int .i64 17]):=by
 have qt:=M4 d I;have qu:=M4 c I;rw[decide_eq_true hd]at qt;rw[decide_eq_true hc]at qu;have wx:=xA N.tobj S 0 k q hS (by omega);have Bi:=hS.la;have kp:=hS.lc;have om:=λ q=>nR I N c hc S.c S.d q cp.c cp.d (by omega) hO
 have df:=om q;have mg:=iJ S c 0 0;have n8:=gB S d c 0;have xh:HJ (EF S d c 0)=[.int .i64 d.b,.int .i64 d.f,.int .i64 d.r,.int .i64 d.o,.int .i64 c.b,.int .i64 c.f,.int .i64 c.r,.int .i64 c.o,.int .i64 0,.sl false ((GM S c 0 (0+1)).map KC),.sl false [],.int .i64 1]:=rfl;have Jl:JT S c 0=GC c (DJ S.c S.d):=by simp [JT,cB,VP,VX]
 rw[Jl];rw[xh]at n8 ⊢;have ud:cB S 0 0=DJ S.c S.d:=by rw[cB,VP,VX]
 rw[ud]at mg;have nc:(GM S c 0 (0+1)).length=1:=by simp [GM]
 by_cases hf:GC c (DJ S.c S.d)=true
 ·rw[hf,if_pos rfl]at df ⊢
  generalize E8 c (DJ S.c S.d)=T at *;refine Ev.x N.O7 rfl rfl ?_;(repeat' ((first|(apply BS;omega)|apply BR|apply A7|refine AY (qt) ?_|refine AY (qu) ?_|refine AY (wx) ?_)<;>conv=>whnf))
  refine JF ?_;(repeat' ((first|(apply BB<;>intro hc<;>try omega)|apply FM|apply A7|refine AY (df) ?_)<;>conv=>whnf))
  refine LC (enc:=KC) (l:=[⟨false,T⟩]) (λ_=>rfl) (by simp) (by simp) ?_;rw[show [(⟨false,T⟩:Nd)]=GM S c 0 (0+1) from mg.symm];(conv=>whnf)
  (repeat' ((first|(apply BS;omega)|fail)<;>conv=>whnf))
  refine JF ?_;(repeat' ((first|(apply BB<;>intro hc<;>try omega)|(apply BS;omega)|(refine GR (λ_=>rfl) rfl ?_ ?_;(first|rfl|simp))|apply A7)<;>conv=>whnf))
  exact BU (by rw[Bi];rfl) n8
 ·rw[if_neg hf]at df ⊢
  refine Ev.x N.O7 rfl rfl ?_;(repeat' ((first|(apply BS;omega)|apply BR|apply A7|refine AY (qt) ?_|refine AY (qu) ?_|refine AY (wx) ?_)<;>conv=>whnf))
  refine JF ?_;(repeat' ((first|(apply BB<;>intro hc<;>try omega)|apply A7|refine AY (df) ?_)<;>conv=>whnf))
  exact BU rfl (W8 17)
theorem AfV (I:g9 L) (N:w8 L) (S:EV) (q:Bool) (d c:Wd) (hd:WV d) (hc:WV c) (k:Nat) (hS:S.Ok 0 k) (hk:k<=1000000) (cp:X4 S c) :
  Ev L 391 [.agg (OD q S),.agg (EO d),.agg (EO c)] (if JT S c 0 then .g8 [.agg (HJ (EF S d c 0)),.int .i64 0] else .g8 [.agg ZH,.int .i64 17]):=by
 have qt:=Q4 d I;have qu:=Q4 c I;rw[decide_eq_true hd]at qt;rw[decide_eq_true hc]at qu;have wx:=wZ N.tobj S 0 k q hS (by omega);have Bi:=hS.la;have kp:=hS.lc;have om:=λ q=>nS I N c hc S.c S.d q cp.c cp.d (by omega)
 have df:=om q;have mg:=iJ S c 0 0;have n8:=gB S d c 0;have xh:HJ (EF S d c 0)=[.int .i64 d.b,.int .i64 d.f,.int .i64 d.r,.int .i64 d.o,.int .i64 c.b,.int .i64 c.f,.int .i64 c.r,.int .i64 c.o,.int .i64 0,.sl false ((GM S c 0 (0+1)).map KC),.sl false [],.int .i64 1]:=rfl;have Jl:JT S c 0=GC c (DJ S.c S.d):=by simp [JT,cB,VP,VX]
 rw[Jl];rw[xh]at n8 ⊢;have ud:cB S 0 0=DJ S.c S.d:=by rw[cB,VP,VX]
 rw[ud]at mg;have nc:(GM S c 0 (0+1)).length=1:=by simp [GM]
 by_cases hf:GC c (DJ S.c S.d)=true
 ·rw[hf,if_pos rfl]at df ⊢
  generalize E8 c (DJ S.c S.d)=T at *;refine Ev.x N.O2 rfl rfl ?_;(repeat' ((first|(apply BS;omega)|apply BR|apply A7|refine AY (qt) ?_|refine AY (qu) ?_|refine AY (wx) ?_)<;>conv=>whnf))
  refine JF ?_;(repeat' ((first|(apply BB<;>intro hc<;>try omega)|apply FM|apply A7|refine AY (df) ?_)<;>conv=>whnf))
  refine LC (enc:=KC) (l:=[⟨false,T⟩]) (λ_=>rfl) (by simp) (by simp) ?_;rw[show [(⟨false,T⟩:Nd)]=GM S c 0 (0+1) from mg.symm];(conv=>whnf)
  (repeat' ((first|(apply BS;omega)|fail)<;>conv=>whnf))
  refine JF ?_;(repeat' ((first|(apply BB<;>intro hc<;>try omega)|(refine GR (λ_=>rfl) rfl ?_ ?_;(first|rfl|simp))|apply A7)<;>conv=>whnf))
  exact BU (by rw[Bi];rfl) n8
 ·rw[if_neg hf]at df ⊢
  refine Ev.x N.O2 rfl rfl ?_;(repeat' ((first|(apply BS;omega)|apply BR|apply A7|refine AY (qt) ?_|refine AY (qu) ?_|refine AY (wx) ?_)<;>conv=>whnf))
  refine JF ?_;(repeat' ((first|(apply BB<;>intro hc<;>try omega)|apply A7|refine AY (df) ?_)<;>conv=>whnf))
  exact BU rfl (W8 17)
theorem wX (I:g9 L) (N:w8 L) (S:EV) (q:Bool) (d c:Wd) (hd:WV d) (hc:WV c) (n k:Nat) (hS:S.Ok n k) (hn:n<=3) (hk:k<=1000000) (cp:X4 S c) :
  Ev L 389 [.agg (OD q S),.agg (EO d),.agg (EO c)] (if JT S c n then .g8 [.agg (HJ (EF S d c n)),.int .i64 0] else .g8 [.agg ZH,.int .i64 17])/\Ev L 391 [.agg (OD q S),.agg (EO d),.agg (EO c)] (if JT S c n then .g8 [.agg (HJ (EF S d c n)),.int .i64 0] else .g8 [.agg ZH,.int .i64 17]):=by
 have hO : ∀ y,J8 c y->(E6 c y).natAbs<4294967296:=λ y hy=>(Oc hy.2.1 hy.2.2).1
 by_cases h0:n=0
 ·subst h0
  exact ⟨Af6 I N S q d c hd hc k hS hk cp hO,AfV I N S q d c hd hc k hS hk cp⟩
 ·exact ⟨Af5 I N S q d c hd hc n k hS hn h0 hk cp hO,AfU I N S q d c hd hc n k hS hn h0 hk cp⟩
end Go.e6
namespace Go.e6
theorem Qj {v w:List Rat} : ∀ {ts:List (Int × Int)},(∀ t∈ts,t.1.toNat<v.length)->IC (v++w) ts=IC v ts
 | [],_=>rfl
 | t::ts,h=>by
  rw[IC,IC,Qj λ t ht=>h t (List.mem_cons_of_mem _ ht)];congr 2;rw[List.getD_eq_getElem?_getD,List.getD_eq_getElem?_getD,List.getElem?_append_left (h t (List.mem_cons_self ..))]
theorem xH (u:Rat) : ∀ (l:List (List (Int × Int))) (k:Nat) (v w:List Rat),(∀ ts∈l,∀ t∈ts,t.1.toNat<v.length)->IP u (-1) k (v++w) l=v++w++l.map λ ts=>IC v ts/u
 | [],_,_,_,_=>by rw[IP,List.map_nil,List.append_nil]
 | ts::l,k,v,w,h=>by
  rw[IP,Qj (h ts (List.mem_cons_self ..)),if_neg (by omega),Rat.add_zero,List.append_assoc v w,xH u l (k+1) v (w++[IC v ts/u]) λ t ht=>h t (List.mem_cons_of_mem _ ht),List.map_cons];simp
def P8 (w:Wd) (v:List Rat):List (Int × Rat)->Rat
 | []=>0
 | p::l=>((E6 w p.2:Int):Rat)*v.getD p.1.toNat 0+P8 w v l
theorem rE (w:Wd) (v:List Rat) : ∀ a b,P8 w v (a++b)=P8 w v a+P8 w v b
 | [],b=>by rw[List.nil_append,P8,Rat.zero_add]
 | p::a,b=>by rw[List.cons_append,P8,P8,rE w v a b,Rat.add_assoc]
theorem Qo (w:Wd) (v:List Rat) : ∀ l,IC v (E8 w l)=P8 w v l
 | []=>rfl
 | p::l=>by
  rw[P8,<-Qo w v l,E8,List.filterMap_cons];by_cases h:E6 w p.2=0
  ·rw[if_pos h,h]
   show IC v (E8 w l)=((0:Int):Rat)*_+IC v (E8 w l);rw[show ((0:Int):Rat)=0 from rfl,Rat.zero_mul,Rat.zero_add]
  ·rw[if_neg h];rfl
theorem Qw {n i:Nat} {j:Int} (h:i<n):(F4 n j).getD i 0=if (i:Int)=j then 1 else 0:=by
 rw[List.getD_eq_getElem?_getD,F4,List.getElem?_map,List.getElem?_range h];rfl
theorem Qi (w:Wd) (n:Nat) (src:Int) (f:Nat->Rat) : ∀ k,k<=n->P8 w (F4 (n+1) src) ((List.range k).map λ j:Nat=>((j:Int)+1,f j))=if 1<=src/\src<=k then ((E6 w (f (src-1).toNat):Int):Rat) else 0
 | 0,_=>by rw[if_neg (by omega)];rfl
 | k+1,hk=>by
  rw[List.range_succ,List.map_append,rE,Qi w n src f k (by omega)];simp only[List.map_cons,List.map_nil,P8,Rat.add_zero];rw[show ((k:Int)+1).toNat=k+1 by omega,Qw (by omega)];by_cases h:src=(k:Int)+1
  ·subst h
   rw[if_neg (by omega),if_pos (by omega),if_pos (by omega),Rat.zero_add,Rat.mul_one];congr 3;omega
  ·rw[if_neg (show ¬ (((k+1:Nat):Int)=src) by omega),Rat.mul_zero,Rat.add_zero]
   by_cases h2:1<=src/\src<=k
   ·rw[if_pos h2,if_pos (by omega)]
   ·rw[if_neg h2,if_neg (by omega)]
theorem Ai8 (w:Wd) {n:Nat} {src:Int} {row:List Rat} {x:Rat} (hl:row.length=n) (h0:0<=src/\src<=n):P8 w (F4 (n+1) src) (DJ row x)=if src=0 then ((E6 w x:Int):Rat) else ((E6 w (row.getD (src-1).toNat 0):Int):Rat):=by
 rw[DJ,rE,hl,Qi w n src _ n (Nat.le_refl _)];simp only[P8,Rat.add_zero,Int.toNat_zero];rw[Qw (by omega)];by_cases h:src=0
 ·subst h
  rw[if_neg (by omega),if_pos (by omega),if_pos rfl,Rat.zero_add,Rat.mul_one]
 ·rw[if_pos (by omega),if_neg (by omega),if_neg h,Rat.mul_zero,Rat.add_zero]
theorem tT {row:List Rat} {x:Rat} {w:Wd} {t:Int × Int} (h:t∈E8 w (DJ row x)):0<=t.1/\t.1<=row.length /\ ∃ p∈DJ row x,t.2=E6 w p.2:=by
 simp only[E8,List.mem_filterMap]at h;obtain ⟨p,hp,h1⟩:=h;split at h1
 ·cases h1
 ·obtain rfl:=Option.some.inj h1
  have Si:=hp;rw[DJ,List.mem_append]at hp;rcases hp with hp|hp
  ·obtain ⟨j,hj,rfl⟩:=List.mem_map.1 hp
   have:=List.mem_range.1 hj
   exact ⟨by show 0<=(j:Int)+1;omega,by show (j:Int)+1<=_;omega,_,Si,rfl⟩
  ·obtain rfl:=List.mem_singleton.1 hp
   exact ⟨Int.le_refl _,by show (0:Int)<=_;omega,_,Si,rfl⟩
theorem pZ {S:EV} {n k:Nat} (hS:S.Ok n k) (i:Nat):(rB S n i).length=n:=by
 unfold rB;split
 ·rename_i h
  obtain ⟨r,hr⟩ : ∃ r,S.a[i]? = some r:=⟨_,zE (by rw[hS.la];exact h)⟩;rw[List.getD_eq_getElem?_getD,hr];exact hS.lr r (zM hr)
 ·exact hS.lc
theorem qU {S:EV} {d c:Wd} {n k:Nat} (hS:S.Ok n k) {src:Int} (h0:0<=src/\src<=n) {i:Nat} (hi:i<=n):(DZ (EF S d c n) src (-1)).getD (1+(n:Int)+i).toNat 0=(if src=0 then ((E6 c (xB S n i):Int):Rat) else ((E6 c ((rB S n i).getD (src-1).toNat 0):Int):Rat))/((pw c.f:Int):Rat):=by
 have hl:=aT (n+1) src;have De:H3 (EF S d c n)=(List.range (n+1)).map λ i=>E8 c (cB S n i):=by
  simp only[H3,EF,GM,List.map_map];rfl
 have Kw : ∀ ts∈H3 (EF S d c n),∀ t∈ts,t.1.toNat<(F4 (n+1) src).length:=λ ts h t ht=>by
  rw[De]at h;obtain ⟨m,_,rfl⟩:=List.mem_map.1 h;obtain ⟨g1,g2,_⟩:=tT ht;rw[pZ hS]at g2;omega
 have e:=xH ((pw c.f:Int):Rat) (H3 (EF S d c n)) 0 (F4 (n+1) src) [] Kw;rw[List.append_nil]at e;have Br:DZ (EF S d c n) src (-1)=F4 (n+1) src++(H3 (EF S d c n)).map λ ts=>IC (F4 (n+1) src) ts/((pw c.f:Int):Rat):=by
  rw[<-e,DZ];show IP _ _ _ (F4 (1+(n:Int)).toNat src) _=_;rw[show (1+(n:Int)).toNat=n+1 by omega];rfl
 rw[Br,show (1+(n:Int)+i).toNat=n+1+i by omega,List.getD_eq_getElem?_getD,List.getElem?_append_right (by omega),hl,show n+1+i-(n+1)=i by omega,De,List.map_map,List.getElem?_map,List.getElem?_range (by omega)];show IC (F4 (n+1) src) (E8 c (cB S n i))/_=_;rw[Qo,cB,Ai8 c (pZ hS i) h0]
def VZ (w:Wd) (y:Rat):Prop:=((E6 w y:Int):Rat)/((pw w.f:Int):Rat)=y
structure sF (S:EV) (w:Wd):Prop where
 a : ∀ r∈S.a,∀ y∈r,VZ w y
 b : ∀ y∈S.b,VZ w y
 c : ∀ y∈S.c,VZ w y
 d:VZ w S.d
theorem Ahr {S:EV} {d c:Wd} {n k:Nat} (hS:S.Ok n k) (hf:sF S c):FS (EF S d c n)=S:=by
 have hn:(EF S d c n).s.toNat=n:=rfl;have ri : ∀ (l:List Rat) (i:Nat),l.length=n->i<=n->rB S n i=l->(∀ y∈l,VZ c y)->((List.range n).map λ j:Nat=>(DZ (EF S d c n) ((j:Int)+1) (-1)).getD (1+(n:Int)+i).toNat 0)=l:=λ l i hl hi hr hy=>by
  refine List.ext_getElem? λ j => ?_
  by_cases hj:j<n
  ·obtain ⟨y,ku⟩ : ∃ y,l[j]? = some y:=⟨_,zE (by omega)⟩
   rw[List.getElem?_map,List.getElem?_range hj,ku,Option.map_some,qU hS (by omega) hi,if_neg (by omega),hr,show ((j:Int)+1-1).toNat=j by omega,List.getD_eq_getElem?_getD,ku];exact congrArg some (hy y (zM ku))
  ·rw[List.getElem?_eq_none (by simpa using hj),List.getElem?_eq_none (by omega)]
 have e1:(FS (EF S d c n)).a=S.a:=by
  show (HX n n).map (λ e=>(List.range n).map λ(j:Nat)=>(DZ (EF S d c n) ((j:Int)+1) (-1)).getD e.toNat 0)=S.a;refine List.ext_getElem? λ i => ?_
  by_cases hi:i<n
  ·obtain ⟨r,hr⟩ : ∃ r,S.a[i]? = some r:=⟨_,zE (by rw[hS.la];exact hi)⟩
   rw[HX,List.map_map,List.getElem?_map,List.getElem?_range hi,hr];exact congrArg some (ri r i (hS.lr r (zM hr)) (by omega) (QR hr hi) (hf.a r (zM hr)))
  ·rw[List.getElem?_eq_none (by simpa [HX] using hi),List.getElem?_eq_none (by rw[hS.la];omega)]
 have e2:(FS (EF S d c n)).b=S.b:=by
  show (HX n n).map (λ e=>(DZ (EF S d c n) 0 (-1)).getD e.toNat 0)=S.b;refine List.ext_getElem? λ i => ?_
  by_cases hi:i<n
  ·obtain ⟨b,hb⟩ : ∃ b,S.b[i]? = some b:=⟨_,zE (by rw[hS.lb];exact hi)⟩
   rw[HX,List.map_map,List.getElem?_map,List.getElem?_range hi,hb];refine congrArg some ?_;show (DZ (EF S d c n) 0 (-1)).getD (1+(n:Int)+i).toNat 0=b;rw[qU hS (by omega) (by omega),if_pos rfl,QU hb hi];exact hf.b b (zM hb)
  ·rw[List.getElem?_eq_none (by simpa [HX] using hi),List.getElem?_eq_none (by rw[hS.lb];omega)]
 have e3:(FS (EF S d c n)).c=S.c:=ri S.c n hS.lc (Nat.le_refl _) (VP S n) hf.c;have e4:(FS (EF S d c n)).d=S.d:=by
  show (DZ (EF S d c n) 0 (-1)).getD (1+(n:Int)+n).toNat 0=S.d;rw[qU hS (by omega) (Nat.le_refl _),if_pos rfl,VX];exact hf.d
 cases hq:FS (EF S d c n);rw[hq]at e1 e2 e3 e4;simp only at e1 e2 e3 e4;rw[e1,e2,e3,e4]
theorem Oi {c:Wd} {s:Int} : ∀ (l:List Nd) (k:Nat),(∀ (j:Nat) (nd:Nd),l[j]? = some nd->nd.ts.length<=64 /\ ∀ t∈nd.ts,VV c s (k+j) t=true)->PW c s k l=true
 | [],_,_=>rfl
 | e::l,k,h=>by
  rw[PW,Bool.and_eq_true,Bool.and_eq_true];obtain ⟨h1,h2⟩:=h 0 e rfl;refine ⟨⟨decide_eq_true h1,List.all_eq_true.2 h2⟩,Oi l (k+1) λ j nd hj => ?_⟩;have:=h (j+1) nd hj
  rw[show k+(j+1)=k+1+j by omega]at this;exact this
theorem FT.abs {w:Wd} {v:Int} (h:FT w v):v.natAbs<=2^24:=by
 obtain ⟨h1,h2,h3⟩:=h;obtain ⟨g1,g2,g3,g4⟩:=pB h1;have:(2:Nat)^24=16777216:=rfl
 omega
theorem lH {S:EV} {c:Wd} {n k:Nat} (hS:S.Ok n k) (hf:JT S c n=true) {j:Nat} {nd:Nd} (h:(GM S c n (n+1))[j]? = some nd):nd.ts.length<=n+1 /\ ∀ t∈nd.ts,0<=t.1/\t.1<=n/\FT c t.2:=by
 have hj:=(zS h).1;have uq:j<n+1:=by simpa [GM] using hj
 rw[GM,List.getElem?_map,List.getElem?_range uq]at h;obtain rfl:=Option.some.inj h;have hl:=pZ hS j;refine ⟨?_,λ t ht => ?_⟩
 ·have:=rM c (cB S n j)
  have h2:=lK (rB S n j) (xB S n j);rw[hl]at h2;show (E8 c (cB S n j)).length<=_;rw[cB]at this ⊢;omega
 ·obtain ⟨g1,g2,p,hp,e⟩:=tT (show t∈E8 c (DJ (rB S n j) (xB S n j)) from ht)
  rw[hl]at g2;have:=Z6.1 hf j uq
  rw[cB,GC,List.all_eq_true]at this;rw[e];exact ⟨g1,g2,of_decide_eq_true (this p hp)⟩
theorem tK {S:EV} {d c:Wd} {n k:Nat} (hd:WV d) (hc:WV c) (hS:S.Ok n k) (hn:n<=3) (hf:JT S c n=true):XL (EF S d c n)=true/\bM (H3 (EF S d c n))/\(EF S d c n).nodes.length<=4:=by
 have hl:(GM S c n (n+1)).length=n+1:=by simp [GM]
 have hx:(HX n n).length=n:=by simp [HX]
 refine ⟨?_,⟨λ ts h => ?_,λ ts h t ht => ?_⟩,by show (GM S c n (n+1)).length<=4;omega⟩
 ·rw[WL]
  refine ⟨hd,hc,⟨by simp only[EF];omega,by simp only[EF];omega,by simp only[EF];omega,by simp only[EF];omega⟩,?_,?_,by simp only[EF];omega,by simp only[EF];omega⟩
  ·refine Oi _ _ λ j nd h => ?_
   obtain ⟨h1,h2⟩:=lH hS hf h;refine ⟨by omega,λ t ht=>decide_eq_true ?_⟩;obtain ⟨g1,g2,g3⟩:=h2 t ht;exact ⟨g1,by simp only[EF];omega,Or.inr g3⟩
  ·simp only[EF,YV,List.all_eq_true,decide_eq_true_eq,HX,List.mem_map,List.mem_range]
   rintro e ⟨i,hi,rfl⟩
   first|omega|(refine decide_eq_true ?_;omega)
 ·obtain ⟨nd,h1,rfl⟩:=List.mem_map.1 h
  obtain ⟨j,hj⟩:=List.getElem?_of_mem h1;have:=(lH hS hf hj).1
  omega
 ·obtain ⟨nd,h1,rfl⟩:=List.mem_map.1 h
  obtain ⟨j,hj⟩:=List.getElem?_of_mem h1;exact ((lH hS hf hj).2 t ht).2.2.abs
theorem AhK (r:Int) (z:Int):QO r (z:Rat)=z:=by
 have hh:(0:Rat)<=Rat.divInt 1 2/\Rat.divInt 1 2<1:=by decide
 have e1:((z:Rat)+Rat.divInt 1 2).floor=z:=by
  have g1:z<=((z:Rat)+Rat.divInt 1 2).floor:=by rw[Rat.le_floor_iff];grind
  have g2:((z:Rat)+Rat.divInt 1 2).floor<z+1:=by
   rw[Rat.floor_lt_iff,Rat.intCast_add];have:((1:Int):Rat)=1:=rfl
   grind
  omega
 by_cases h3:r=3
 ·rw[h3,pL,Rat.floor_intCast,if_neg λ e=>absurd e.2 Rat.lt_irrefl]
 ·unfold QO
  rw[if_neg h3,Rat.floor_intCast,e1];split<;>rfl
theorem AhL {w:Wd} {z:Int} (hw:WV w) (hz : -8388608<=z/\z<=8388608):E6 w ((z:Rat)/((pw w.f:Int):Rat))=z/\VZ w ((z:Rat)/((pw w.f:Int):Rat))/\J8 w ((z:Rat)/((pw w.f:Int):Rat)):=by
 have hp:=PX w.f;have Bz:=hw;unfold WV at Bz;have h0:((pw w.f:Int):Rat)≠0:=λ e=>by
  have:((pw w.f:Int):Rat)=((0:Int):Rat):=e
  have:=Rat.intCast_inj.1 this
  omega
 have e:(z:Rat)/((pw w.f:Int):Rat)*((pw w.f:Int):Rat)=z:=Rat.div_mul_cancel h0;have e1:E6 w ((z:Rat)/((pw w.f:Int):Rat))=z:=by rw[E6,e,AhK]
 refine ⟨e1,by rw[VZ,e1],?_,by rw[e,Rat.floor_intCast];omega,by rw[e,Rat.floor_intCast];omega⟩;have Hd:=XP (n:=w.f) (m:=23) (by omega);have uz:pw 23=8388608:=by unfold pw;rfl
 have:(2:Nat)^30=1073741824:=rfl
 obtain ⟨d,hd⟩:=Int.eq_ofNat_of_zero_le (show 0<=pw w.f by omega);rw[hd,Rat.intCast_natCast,<-Rat.mkRat_eq_div];exact Bt.mk (by omega) (by omega)
theorem AiO {w:Wd} {x:Rat} (hw:WV w) (hx:Bt 4 x):J8 w x:=by
 have hp:=PX w.f;have Bz:=hw;unfold WV at Bz;have Hd:=XP (n:=w.f) (m:=23) (by omega);have uz:pw 23=8388608:=by unfold pw;rfl
 obtain ⟨h1,h2⟩:=hx;have e16:(2:Nat)^4=16:=rfl;rw[e16]at h1 h2;have hd:=Rat.den_pos x;have ex:x=mkRat x.num x.den:=(Rat.mkRat_self x).symm;have im:(x*((pw w.f:Int):Rat)).floor=x.num*pw w.f/(x.den:Int):=by
  rw[<-xV (by omega)];congr 1;conv=>lhs;rw[ex,show ((pw w.f:Int):Rat)=mkRat (pw w.f) 1 from (Rat.mkRat_one _).symm,Rat.mkRat_mul_mkRat,Nat.mul_one]
 refine ⟨⟨by rw[show (2:Nat)^30=1073741824 from rfl];omega,by rw[show (2:Nat)^30=1073741824 from rfl];omega⟩,?_⟩;rw[im];have hm:(x.num*pw w.f).natAbs<=16*8388608:=by
  rw[Int.natAbs_mul];exact Nat.mul_le_mul h1 (by omega)
 generalize x.num*pw w.f=a at *;generalize x.den=d at *;refine ⟨(Int.le_ediv_iff_mul_le (by omega)).2 (by omega),Int.le_of_lt_add_one ((Int.ediv_lt_iff_lt_mul (by omega)).2 (by omega))⟩
theorem fQ {es:List (List AV)} {i j:Nat} {vs cs:List AV} {K:List (List AV)->Prop} (h:es[i]? = some cs) (hl:Nat.ble (j+vs.length) cs.length=true) (hk:K (es.set i (splice cs j vs))):CR es i j vs K:=by
 unfold CR;exact ⟨cs,h,Nat.le_of_ble_eq_true hl,hk⟩
theorem JW {es:List (List AV)} {off len:Nat} {K:List (List AV)->Prop} (h:Nat.ble (off+len) es.length=true) (hz:es.all JD=true) (hk:K ((es.drop off).take len)):B5 es off len K :=
 bS (Nat.le_of_ble_eq_true h) (λ e he=>List.all_eq_true.1 hz e he) hk
theorem DI {es:List (List AV)} {a:Int} {z:Nat} {K:List AV->Prop} {cs:List AV} (i:Nat) (ha:a=i) (h:es[i]? = some cs) (hz:cs.length=z) (hk:K cs):BJ es a z K:=by
 subst ha;unfold BJ;exact ⟨by omega,cs,h,hz,hk⟩
end Go.e6

namespace Go.e6
open F
attribute [local irreducible] AH A8 BT A5 EW BJ CS CR EU DK EE II C8 B5 DB FG AP CG BF pw HE FL HO HG HN G2 G5 DG FF
attribute [local irreducible] XZ
variable {L:Lib}
set_option maxHeartbeats 8000000
theorem mT (I:g9 L) (N:cr L) (n:Nt) (hn:n.nodes.length<=1000000) (ht : ∀ d∈n.nodes,d.ts.length<=1000000) (hx:n.next.length<=1000000):Ev L 177 [.agg (HJ n),.agg (HJ n)] (.bool true):=by
 have hI:=Af4 I n.next n.next n.qx n.qx (by omega) (by omega)
 rw[decide_eq_true rfl]at hI;refine Ev.x N.UE rfl rfl ?_;(repeat' (apply A7<;>conv=>whnf))
 refine kE [n.d.b,n.d.f,n.d.r,n.d.o] rfl rfl ?_;(conv=>whnf)
 skip
 refine kE [n.c.b,n.c.f,n.c.r,n.c.o] rfl rfl ?_;(conv=>whnf)
 (repeat' ((first|(apply BB<;>intro hc<;>try omega)|apply BR|refine AY (hI) ?_)<;>conv=>whnf))
 refine HC (λ k=>n.nodes.length-k) (λ(k:Nat)=>k<=n.nodes.length) (λ k=>[(5,.int .i64 k)]) (λ_=>[]) 0 (by omega) ?_;intro k p1 ih;by_cases hk:k<n.nodes.length
 ·obtain ⟨d,hd⟩ : ∃ d,n.nodes[k]? = some d:=⟨_,zE hk⟩
  have hd':n.nodes[(k:Int).toNat]? = some d:=hd;have hdl:=ht d (zM hd);(repeat' ((first|(apply BB<;>intro hc<;>try omega)|apply BR|(refine CT (by assumption) ?_ rfl ?_;omega)|apply A7)<;>conv=>whnf))
  refine HC (λ i=>d.ts.length-i) (λ(i:Nat)=>i<=d.ts.length) (λ i=>[(6,.int .i64 i)]) (λ_=>[]) 0 (by omega) ?_;intro i g1 kg;by_cases hi:i<d.ts.length
  ·obtain ⟨t,ht⟩ : ∃ t,d.ts[i]? = some t:=⟨_,zE hi⟩
   have ni:d.ts[(i:Int).toNat]? = some t:=ht;(repeat' ((first|(apply BB<;>intro hc<;>try omega)|apply BR|(refine CT (by assumption) ?_ rfl ?_;omega)|apply A7)<;>conv=>whnf))
   refine kE [t.1,t.2] rfl rfl ?_;(conv=>whnf)
   (repeat' ((first|(apply BS;omega)|fail)<;>conv=>whnf))
   exact C5 [] (by (conv=>whnf);exact ⟨rfl,rfl,rfl⟩) (kg (i+1) (by omega) (by omega))
  ·obtain rfl:i=d.ts.length:=by omega
   clear kg;(repeat' ((first|(apply BB<;>intro hc<;>try omega)|(apply BS;omega)|apply BR|(refine CT (by assumption) ?_ rfl ?_;omega)|apply A7)<;>conv=>whnf))
   exact D0 [] (ih (k+1) (by omega) (by omega))
 ·obtain rfl:k=n.nodes.length:=by omega
  clear ih;(repeat' ((first|(apply BB<;>intro hc<;>try omega)|apply BR|apply A7)<;>conv=>whnf))
  exact H8 rfl
end Go.e6

namespace Go.e6
open F
attribute [local irreducible] AH A8 BT A5 EW BJ CS CR EU DK EE II C8 B5 DB FG AP CG BF pw HE FL HO HG HN G2 G5 DG FF
variable {L:Lib}
set_option maxHeartbeats 16000000
set_option maxRecDepth 8000
theorem Afg (N:cj L) (l:List Int) (q:Bool) (n:Nat) (hl : ∀ x∈l,JR x) (hn:n<=1000000):PO L 141 [.sl q (l.map GJ),.int .i64 (n:Int)] 3 ((S6 l n).map eQ):=by
 have zl : ∀ i:Nat,JR (J9 l (i:Int)):=λ i=>by
  unfold J9;split
  ·rw[List.getD_eq_getElem?_getD]
   cases e:l[((i:Int)).toNat]? with
   | none=>simp [JR]
   | some x=>exact hl x (zM e)
  ·simp [JR]
 refine PO.x N.UY rfl rfl ?_;(repeat' (apply A7<;>conv=>whnf))
 refine HC (λ i=>n-i) (λ(i:Nat)=>i<=n) (λ i=>[(6,.int .i64 i),(5,.row 5 0 3 0 i)]) (λ i=>[(5,5,.rw 3 ((S6 l i).map eQ))]) 0 (by omega) ?_;intro i p1 ih;by_cases hi:i<n
 ·have hA':=λ q=>xC N.too4 l q (i:Int)
  have hW:=gX N.too4 (J9 l (i:Int)) 2000 (zl i) (by omega);have hw0:0<=HT (J9 l (i:Int)) 2000/\HT (J9 l (i:Int)) 2000<2000:=by unfold HT;split<;>omega
  have Fx:=Ail l i;have hlen:=qA l i;have hF:=gU N.toa8 (HT (J9 l (i:Int)) 2000%25-12) (1+HT (J9 l (i:Int)) 2000/25%8) (by omega) (by omega);have hF':Ev L 125 [.int .i64 (HT (J9 l (i:Int)) 2000%25-12),.int .i64 (1+HT (J9 l (i:Int)) 2000/25%8)] (.agg (eQ (aI (HT (J9 l (i:Int)) 2000)))):=hF;clear hF;generalize aI (HT (J9 l (i:Int)) 2000)=y at *;generalize HT (J9 l (i:Int)) 2000=v at *;(repeat' ((first|(apply BB<;>intro hc<;>try omega)|(apply BS;omega)|(apply DC;omega)|(refine X2 ?_ (λ_ _ _ => ?_) (λ_ _ _ _ => ?_);omega;all_goals try omega)|(refine U4 ?_ ?_ (λ_ => ?_) (λ_ _ => ?_);omega;omega;all_goals try omega)|apply FM|apply A7|refine AY (hA' _) ?_|refine AY (hW) ?_|refine AY (hF') ?_)<;>conv=>whnf))
  refine G3 (enc:=eQ) y rfl hlen.symm rfl (by omega) (by omega) ?_;(conv=>whnf)
  (repeat' ((first|(apply BS;omega)|fail)<;>conv=>whnf))
  rw[show (S6 l i++[y]).length=i+1 by simp [hlen],<-Fx];exact D0 [(5,27)] (ih (i+1) (by omega) (by omega))
 ·obtain rfl:i=n:=by omega
  clear ih;have hlen:=qA l i;(repeat' ((first|(apply BB<;>intro hc<;>try omega)|apply A7)<;>conv=>whnf))
  exact ⟨rfl,rfl,by simp [hlen],rfl,YA _⟩
theorem Aff (I:g9 L) (N:y8 L) (n:Nt) (hv:XL n=false):Ev L 146 [.agg (HJ n)] (.g8 [.agg [.sl false [],.sl false [],.sl false [],.bool false,.sl false [],.sl false []],.int .i64 2]):=by
 have hV:=wM n I N.tofx;rw[hv]at hV;refine Ev.x N.PV rfl rfl ?_;(repeat' ((first|apply A7|refine AY (hV) ?_)<;>conv=>whnf))
 exact BU rfl (by simp [B4,DN,GF])
def ZF:Nt:=⟨⟨0,0,0,0⟩,⟨0,0,0,0⟩,0,false,[],false,[],0⟩
def H2 (n:Nat) (X:List Rat):EV:=⟨Mv X n n,(X.take (n*n+n)).drop (n*n),(X.take (n*n+2*n)).drop (n*n+n),X.getD (n*n+2*n) 0⟩
theorem rF {P:Rat->Prop} {n:Nat} {X:List Rat} (hl:X.length=n*n+2*n+1) (h : ∀ y∈X,P y):(∀ r∈(H2 n X).a,∀ y∈r,P y)/\(∀ y∈(H2 n X).b,P y)/\(∀ y∈(H2 n X).c,P y)/\P (H2 n X).d:=by
 refine ⟨λ r hr y hy => ?_,λ y hy=>h y (List.mem_of_mem_take (List.mem_of_mem_drop hy)),λ y hy=>h y (List.mem_of_mem_take (List.mem_of_mem_drop hy)),?_⟩
 ·obtain ⟨i,_,rfl⟩:=List.mem_map.1 hr
  exact h y (List.mem_of_mem_take (List.mem_of_mem_drop hy))
 ·refine h _ ?_
  show X.getD (n*n+2*n) 0∈X;rw[List.getD_eq_getElem?_getD,zE (by omega)];exact List.getElem_mem _
theorem Ql {n k:Nat} {X:List Rat} (hl:X.length=n*n+2*n+1) (h:Bs k X):(H2 n X).Ok n k:=by
 obtain ⟨h1,h2,h3,h4⟩:=rF hl h;refine ⟨by simp [H2,Mv],λ r hr => ?_,by simp [H2];omega,by simp [H2];omega,h1,h2,h3,h4⟩;obtain ⟨i,hi,rfl⟩:=List.mem_map.1 hr;refine Aip ?_;have:=List.mem_range.1 hi
 have:=zR n (show i+1<=n by omega)
 rw[Nat.succ_mul]at this;omega
abbrev aX (c:Wd) (Z:List Int):List Rat:=Z.map λ z:Int=>(z:Rat)/((pw c.f:Int):Rat)
theorem wA (N:fc L) (l:List Int) (q:Bool) (size data fh:Int) (d c:Wd) (hc:WV c) (n:Nat) (hn:n<=3) (hW:Ev L 34 [.int .i64 size,.int .i64 4] (.int .i64 (n:Int)))
  (X:List Rat) (hX:X.length=n*n+2*n+1) (hR : ∀ q,PO L 141 [.sl q (l.map GJ),.int .i64 ((n*n+2*n+1:Nat):Int)] 3 (X.map eQ)) (hD:Ev L 37 [.int .i64 data] (.agg (EO d))) (hC:Ev L 38 [.int .i64 fh] (.agg (EO c))) (hU:Ev L 41 [.agg (EO c)] (.int .i64 (pw c.f))) (qp:Ev L 125 [.int .i64 1,.int .i64 (pw c.f)] (.agg (eQ (Rat.divInt 1 (pw c.f)))))
  (m:Nt) (e g:Int) (A B C D M:List (List AV)) (s:Bool) (mn:Ev L 389 [.agg (OD true (H2 n X)),.agg (EO d),.agg (EO c)] (.g8 [.agg (HJ m),.int .i64 e])) (mo:Ev L 391 [.agg (OD true (H2 n X)),.agg (EO d),.agg (EO c)] (.g8 [.agg (HJ m),.int .i64 e]))
  (hN:Ev L 177 [.agg (HJ m),.agg (HJ m)] (.bool true)) (hL:Ev L 146 [.agg (HJ m)] (.g8 [.agg [.sl false A,.sl false B,.sl false C,.bool s,.sl false M,.sl false D],.int .i64 g])) (rh:Ev L 215 [] (.bool true)) :
  Ev L 392 [.sl q (l.map GJ),.int .i64 size,.int .i64 data,.int .i64 fh,.bool false] (.bool true):=by
 obtain rfl|rfl|rfl|rfl:n=0\/n=1\/n=2\/n=3:=by omega
 ·match X,hX with
  | [x0],_ =>
   refine Ev.x N.IA rfl rfl ?_;(repeat' ((first|apply A7|refine AY (hW) ?_)<;>conv=>whnf))
   refine FN 1000 N.IE rfl rfl ?_;(repeat' ((first|(apply BS;omega)|(apply FU;omega)|apply A7)<;>conv=>whnf))
   refine OP (enc:=eQ) 1 (hR _) rfl ?_;(conv=>whnf)
   (repeat' ((first|(apply B7;omega)|(apply BS;omega)|(apply FU;omega)|(refine kK ?_ (λ_=>rfl) (λ v hv => ?_);omega)|(apply ON;omega))<;>conv=>whnf))
   obtain rfl:x0=v:=Option.some.inj hv;repeat (refine JF ?_;(repeat' ((first|(apply BB<;>intro hc<;>try omega)|apply A7)<;>conv=>whnf)))
   refine ⟨rfl,?_⟩;(conv=>whnf)
   (repeat' ((first|refine AY (hD) ?_|refine AY (hC) ?_|refine AY (hU) ?_|refine AY (qp) ?_)<;>conv=>whnf))
   try (refine B7 rfl ?_;(conv=>whnf))
   repeat (refine JW rfl rfl ?_;(conv=>whnf))
   refine AY mn ?_;(conv=>whnf)
   skip
   try (refine B7 rfl ?_;(conv=>whnf))
   repeat (refine JW rfl rfl ?_;(conv=>whnf))
   refine AY mo ?_;(conv=>whnf)
   (repeat' ((first|(apply BB<;>intro hc<;>try omega)|refine AY (hN) ?_|refine AY (hL) ?_|refine AY (rh) ?_)<;>conv=>whnf))
   exact H8 rfl
 ·match X,hX with
  | [x0,x1,x2,x3],_ =>
   refine Ev.x N.IA rfl rfl ?_;(repeat' ((first|apply A7|refine AY (hW) ?_)<;>conv=>whnf))
   refine FN 1000 N.IE rfl rfl ?_;(repeat' ((first|(apply BS;omega)|(apply FU;omega)|apply A7)<;>conv=>whnf))
   refine OP (enc:=eQ) 4 (hR _) rfl ?_;(conv=>whnf)
   (repeat' ((first|(apply B7;omega)|(apply BS;omega)|(apply FU;omega)|(refine PA ?_ (λ_=>rfl) (λ v hv => ?_);omega)|(apply ON;omega))<;>conv=>whnf))
   obtain rfl:x3=v:=Option.some.inj hv;repeat (refine JF ?_;(repeat' ((first|(apply BB<;>intro hc<;>try omega)|(apply B7;omega)|(apply BS;omega)|(apply FU;omega)|(apply ON;omega)|apply A7)<;>conv=>whnf)))
   refine ⟨rfl,?_⟩;(conv=>whnf)
   (repeat' ((first|refine AY (hD) ?_|refine AY (hC) ?_|refine AY (hU) ?_|refine AY (qp) ?_)<;>conv=>whnf))
   try (refine B7 rfl ?_;(conv=>whnf))
   repeat (refine JW rfl rfl ?_;(conv=>whnf))
   refine AY mn ?_;(conv=>whnf)
   skip
   try (refine B7 rfl ?_;(conv=>whnf))
   repeat (refine JW rfl rfl ?_;(conv=>whnf))
   refine AY mo ?_;(conv=>whnf)
   (repeat' ((first|(apply BB<;>intro hc<;>try omega)|refine AY (hN) ?_|refine AY (hL) ?_|refine AY (rh) ?_)<;>conv=>whnf))
   exact H8 rfl
 ·match X,hX with
  | [x0,x1,x2,x3,x4,x5,x6,x7,x8],_ =>
   refine Ev.x N.IA rfl rfl ?_;(repeat' ((first|apply A7|refine AY (hW) ?_)<;>conv=>whnf))
   refine FN 1000 N.IE rfl rfl ?_;(repeat' ((first|(apply BS;omega)|(apply FU;omega)|apply A7)<;>conv=>whnf))
   refine OP (enc:=eQ) 9 (hR _) rfl ?_;(conv=>whnf)
   (repeat' ((first|(apply B7;omega)|(apply BS;omega)|(apply FU;omega)|(refine PA ?_ (λ_=>rfl) (λ v hv => ?_);omega)|(apply ON;omega))<;>conv=>whnf))
   obtain rfl:x8=v:=Option.some.inj hv;repeat (refine JF ?_;(repeat' ((first|(apply BB<;>intro hc<;>try omega)|(apply B7;omega)|(apply BS;omega)|(apply FU;omega)|(apply ON;omega)|apply A7)<;>conv=>whnf)))
   refine ⟨rfl,?_⟩;(conv=>whnf)
   (repeat' ((first|refine AY (hD) ?_|refine AY (hC) ?_|refine AY (hU) ?_|refine AY (qp) ?_)<;>conv=>whnf))
   try (refine B7 rfl ?_;(conv=>whnf))
   repeat (refine JW rfl rfl ?_;(conv=>whnf))
   refine AY mn ?_;(conv=>whnf)
   skip
   try (refine B7 rfl ?_;(conv=>whnf))
   repeat (refine JW rfl rfl ?_;(conv=>whnf))
   refine AY mo ?_;(conv=>whnf)
   (repeat' ((first|(apply BB<;>intro hc<;>try omega)|refine AY (hN) ?_|refine AY (hL) ?_|refine AY (rh) ?_)<;>conv=>whnf))
   exact H8 rfl
 ·match X,hX with
  | [x0,x1,x2,x3,x4,x5,x6,x7,x8,x9,xa,xb,xc,xd,xe,xf],_ =>
   refine Ev.x N.IA rfl rfl ?_;(repeat' ((first|apply A7|refine AY (hW) ?_)<;>conv=>whnf))
   refine FN 1000 N.IE rfl rfl ?_;(repeat' ((first|(apply BS;omega)|(apply FU;omega)|apply A7)<;>conv=>whnf))
   refine OP (enc:=eQ) 16 (hR _) rfl ?_;(conv=>whnf)
   (repeat' ((first|(apply B7;omega)|(apply BS;omega)|(apply FU;omega)|(refine PA ?_ (λ_=>rfl) (λ v hv => ?_);omega)|(apply ON;omega))<;>conv=>whnf))
   obtain rfl:xf=v:=Option.some.inj hv;repeat (refine JF ?_;(repeat' ((first|(apply BB<;>intro hc<;>try omega)|(apply B7;omega)|(apply BS;omega)|(apply FU;omega)|(apply ON;omega)|apply A7)<;>conv=>whnf)))
   refine ⟨rfl,?_⟩;(conv=>whnf)
   (repeat' ((first|refine AY (hD) ?_|refine AY (hC) ?_|refine AY (hU) ?_|refine AY (qp) ?_)<;>conv=>whnf))
   try (refine B7 rfl ?_;(conv=>whnf))
   repeat (refine JW rfl rfl ?_;(conv=>whnf))
   refine AY mn ?_;(conv=>whnf)
   skip
   try (refine B7 rfl ?_;(conv=>whnf))
   repeat (refine JW rfl rfl ?_;(conv=>whnf))
   refine AY mo ?_;(conv=>whnf)
   (repeat' ((first|(apply BB<;>intro hc<;>try omega)|refine AY (hN) ?_|refine AY (hL) ?_|refine AY (rh) ?_)<;>conv=>whnf))
   exact H8 rfl
theorem Afl (N:fc L) (l:List Int) (q:Bool) (size data fh:Int) (d c:Wd) (hc:WV c) (n:Nat) (hn:n<=3) (hW:Ev L 34 [.int .i64 size,.int .i64 4] (.int .i64 (n:Int)))
  (X:List Rat) (hX:X.length=n*n+2*n+1) (hR : ∀ q,PO L 141 [.sl q (l.map GJ),.int .i64 ((n*n+2*n+1:Nat):Int)] 3 (X.map eQ)) (hD:Ev L 37 [.int .i64 data] (.agg (EO d))) (hC:Ev L 38 [.int .i64 fh] (.agg (EO c))) (hU:Ev L 41 [.agg (EO c)] (.int .i64 (pw c.f))) (qp:Ev L 125 [.int .i64 1,.int .i64 (pw c.f)] (.agg (eQ (Rat.divInt 1 (pw c.f)))))
  (Z:List Int) (hZ:Z.length=n*n+2*n+1) (tt : ∀ q,Ev L 40 [.int .i64 (pw (c.b-1)-1),.sl q (l.map GJ),.int .i64 ((n*n+2*n+1:Nat):Int)] (.sl false (Z.map GJ))) (Ck : ∀ z∈Z,Ev L 124 [.int .i64 z] (.agg (eQ (z:Rat)))) (Cj : ∀ z∈Z,Ev L 128 [.agg (eQ (Rat.divInt 1 (pw c.f))),.agg (eQ (z:Rat))] (.agg (eQ ((z:Rat)/((pw c.f:Int):Rat)))))
  (m:Nt) (mn:Ev L 389 [.agg (OD true (H2 n (aX c Z))),.agg (EO d),.agg (EO c)] (.g8 [.agg (HJ m),.int .i64 0])) (mo:Ev L 391 [.agg (OD true (H2 n (aX c Z))),.agg (EO d),.agg (EO c)] (.g8 [.agg (HJ m),.int .i64 0]))
  (hN:Ev L 177 [.agg (HJ m),.agg (HJ m)] (.bool true)) (hL:Ev L 146 [.agg (HJ m)] (.g8 [.agg (eS (H2 n (aX c Z))),.int .i64 0])) (hY:Ev L 167 [.agg (OD true (H2 n (aX c Z))),.agg (eS (H2 n (aX c Z)))] (.bool true)) (rh:Ev L 215 [] (.bool true)) :
  Ev L 392 [.sl q (l.map GJ),.int .i64 size,.int .i64 data,.int .i64 fh,.bool true] (.bool true):=by
 have y6:=hc;unfold WV at y6;obtain rfl|rfl|rfl|rfl:n=0\/n=1\/n=2\/n=3:=by omega
 ·match X,hX,Z,hZ with
  | [x0],_,[z0],_ =>
   simp only[List.map_cons,List.map_nil]at tt;refine Ev.x N.IA rfl rfl ?_;(repeat' ((first|apply A7|refine AY (hW) ?_)<;>conv=>whnf))
   refine FN 1000 N.IE rfl rfl ?_;(repeat' ((first|(apply BS;omega)|(apply FU;omega)|apply A7)<;>conv=>whnf))
   refine OP (enc:=eQ) 1 (hR _) rfl ?_;(conv=>whnf)
   (repeat' ((first|(apply B7;omega)|(apply BS;omega)|(apply FU;omega)|(refine kK ?_ (λ_=>rfl) (λ v hv => ?_);omega)|(apply ON;omega))<;>conv=>whnf))
   obtain rfl:x0=v:=Option.some.inj hv;repeat (refine JF ?_;(repeat' ((first|(apply BB<;>intro hc<;>try omega)|apply A7)<;>conv=>whnf)))
   refine ⟨rfl,?_⟩;(conv=>whnf)
   (repeat' ((first|(apply BS;omega)|(apply DC;omega)|(apply FU;omega)|(refine JN ?_ (λ_ _ => ?_);omega)|(apply DL;omega)|refine AY (hD) ?_|refine AY (hC) ?_|refine AY (hU) ?_|refine AY (qp) ?_|refine AY (tt _) ?_)<;>conv=>whnf))
   repeat (
    (first|refine JF ?_|(refine fQ rfl rfl ?_;(conv=>whnf))|(refine DI 0 (by omega) rfl rfl ?_;(conv=>whnf))|(refine DI 1 (by omega) rfl rfl ?_;(conv=>whnf))|(refine DI 2 (by omega) rfl rfl ?_;(conv=>whnf))|(refine DI 3 (by omega) rfl rfl ?_;(conv=>whnf))|(refine DI 4 (by omega) rfl rfl ?_;(conv=>whnf))|(refine DI 5 (by omega) rfl rfl ?_;(conv=>whnf))|(refine DI 6 (by omega) rfl rfl ?_;(conv=>whnf))|(refine DI 7 (by omega) rfl rfl ?_;(conv=>whnf))|(refine DI 8 (by omega) rfl rfl ?_;(conv=>whnf))|(refine DI 9 (by omega) rfl rfl ?_;(conv=>whnf))|(refine DI 10 (by omega) rfl rfl ?_;(conv=>whnf))|(refine DI 11 (by omega) rfl rfl ?_;(conv=>whnf))|(refine DI 12 (by omega) rfl rfl ?_;(conv=>whnf))|(refine DI 13 (by omega) rfl rfl ?_;(conv=>whnf))|(refine DI 14 (by omega) rfl rfl ?_;(conv=>whnf))|(refine DI 15 (by omega) rfl rfl ?_;(conv=>whnf))|(refine B7 rfl ?_;(conv=>whnf))|(refine B7 ⟨by omega,by omega⟩ ?_;(conv=>whnf)))
    (repeat' ((first|(apply BB<;>intro hc<;>try omega)|(apply BS;omega)|(apply FU;omega)|apply A7|refine AY (Ck _ (by simp)) ?_|refine AY (Cj _ (by simp)) ?_)<;>conv=>whnf)))
   try (refine B7 rfl ?_;(conv=>whnf))
   repeat (refine JW rfl rfl ?_;(conv=>whnf))
   refine AY mn ?_;(conv=>whnf)
   skip
   try (refine B7 rfl ?_;(conv=>whnf))
   repeat (refine JW rfl rfl ?_;(conv=>whnf))
   refine AY mo ?_;(conv=>whnf)
   (repeat' ((first|(apply BB<;>intro hc<;>try omega)|refine AY (hN) ?_|refine AY (hL) ?_|refine AY (rh) ?_)<;>conv=>whnf))
   try (refine B7 rfl ?_;(conv=>whnf))
   repeat (refine JW rfl rfl ?_;(conv=>whnf))
   refine AY hY ?_;(conv=>whnf)
   skip
   exact H8 rfl
 ·match X,hX,Z,hZ with
  | [x0,x1,x2,x3],_,[z0,z1,z2,z3],_ =>
   simp only[List.map_cons,List.map_nil]at tt;refine Ev.x N.IA rfl rfl ?_;(repeat' ((first|apply A7|refine AY (hW) ?_)<;>conv=>whnf))
   refine FN 1000 N.IE rfl rfl ?_;(repeat' ((first|(apply BS;omega)|(apply FU;omega)|apply A7)<;>conv=>whnf))
   refine OP (enc:=eQ) 4 (hR _) rfl ?_;(conv=>whnf)
   (repeat' ((first|(apply B7;omega)|(apply BS;omega)|(apply FU;omega)|(refine PA ?_ (λ_=>rfl) (λ v hv => ?_);omega)|(apply ON;omega))<;>conv=>whnf))
   obtain rfl:x3=v:=Option.some.inj hv;repeat (refine JF ?_;(repeat' ((first|(apply BB<;>intro hc<;>try omega)|(apply B7;omega)|(apply BS;omega)|(apply FU;omega)|(apply ON;omega)|apply A7)<;>conv=>whnf)))
   refine ⟨rfl,?_⟩;(conv=>whnf)
   (repeat' ((first|(apply BS;omega)|(apply DC;omega)|(apply FU;omega)|(refine JN ?_ (λ_ _ => ?_);omega)|(apply DL;omega)|refine AY (hD) ?_|refine AY (hC) ?_|refine AY (hU) ?_|refine AY (qp) ?_|refine AY (tt _) ?_)<;>conv=>whnf))
   repeat (
    (first|refine JF ?_|(refine fQ rfl rfl ?_;(conv=>whnf))|(refine DI 0 (by omega) rfl rfl ?_;(conv=>whnf))|(refine DI 1 (by omega) rfl rfl ?_;(conv=>whnf))|(refine DI 2 (by omega) rfl rfl ?_;(conv=>whnf))|(refine DI 3 (by omega) rfl rfl ?_;(conv=>whnf))|(refine DI 4 (by omega) rfl rfl ?_;(conv=>whnf))|(refine DI 5 (by omega) rfl rfl ?_;(conv=>whnf))|(refine DI 6 (by omega) rfl rfl ?_;(conv=>whnf))|(refine DI 7 (by omega) rfl rfl ?_;(conv=>whnf))|(refine DI 8 (by omega) rfl rfl ?_;(conv=>whnf))|(refine DI 9 (by omega) rfl rfl ?_;(conv=>whnf))|(refine DI 10 (by omega) rfl rfl ?_;(conv=>whnf))|(refine DI 11 (by omega) rfl rfl ?_;(conv=>whnf))|(refine DI 12 (by omega) rfl rfl ?_;(conv=>whnf))|(refine DI 13 (by omega) rfl rfl ?_;(conv=>whnf))|(refine DI 14 (by omega) rfl rfl ?_;(conv=>whnf))|(refine DI 15 (by omega) rfl rfl ?_;(conv=>whnf))|(refine B7 rfl ?_;(conv=>whnf))|(refine B7 ⟨by omega,by omega⟩ ?_;(conv=>whnf)))
    (repeat' ((first|(apply BB<;>intro hc<;>try omega)|(apply B7;omega)|(apply BS;omega)|(apply FU;omega)|apply A7|refine AY (Ck _ (by simp)) ?_|refine AY (Cj _ (by simp)) ?_)<;>conv=>whnf)))
   try (refine B7 rfl ?_;(conv=>whnf))
   repeat (refine JW rfl rfl ?_;(conv=>whnf))
   refine AY mn ?_;(conv=>whnf)
   skip
   try (refine B7 rfl ?_;(conv=>whnf))
   repeat (refine JW rfl rfl ?_;(conv=>whnf))
   refine AY mo ?_;(conv=>whnf)
   (repeat' ((first|(apply BB<;>intro hc<;>try omega)|refine AY (hN) ?_|refine AY (hL) ?_|refine AY (rh) ?_)<;>conv=>whnf))
   try (refine B7 rfl ?_;(conv=>whnf))
   repeat (refine JW rfl rfl ?_;(conv=>whnf))
   refine AY hY ?_;(conv=>whnf)
   skip
   exact H8 rfl
 ·match X,hX,Z,hZ with
  | [x0,x1,x2,x3,x4,x5,x6,x7,x8],_,[z0,z1,z2,z3,z4,z5,z6,z7,z8],_ =>
   simp only[List.map_cons,List.map_nil]at tt;refine Ev.x N.IA rfl rfl ?_;(repeat' ((first|apply A7|refine AY (hW) ?_)<;>conv=>whnf))
   refine FN 1000 N.IE rfl rfl ?_;(repeat' ((first|(apply BS;omega)|(apply FU;omega)|apply A7)<;>conv=>whnf))
   refine OP (enc:=eQ) 9 (hR _) rfl ?_;(conv=>whnf)
   (repeat' ((first|(apply B7;omega)|(apply BS;omega)|(apply FU;omega)|(refine PA ?_ (λ_=>rfl) (λ v hv => ?_);omega)|(apply ON;omega))<;>conv=>whnf))
   obtain rfl:x8=v:=Option.some.inj hv;repeat (refine JF ?_;(repeat' ((first|(apply BB<;>intro hc<;>try omega)|(apply B7;omega)|(apply BS;omega)|(apply FU;omega)|(apply ON;omega)|apply A7)<;>conv=>whnf)))
   refine ⟨rfl,?_⟩;(conv=>whnf)
   (repeat' ((first|(apply BS;omega)|(apply DC;omega)|(apply FU;omega)|(refine JN ?_ (λ_ _ => ?_);omega)|(apply DL;omega)|refine AY (hD) ?_|refine AY (hC) ?_|refine AY (hU) ?_|refine AY (qp) ?_|refine AY (tt _) ?_)<;>conv=>whnf))
   repeat (
    (first|refine JF ?_|(refine fQ rfl rfl ?_;(conv=>whnf))|(refine DI 0 (by omega) rfl rfl ?_;(conv=>whnf))|(refine DI 1 (by omega) rfl rfl ?_;(conv=>whnf))|(refine DI 2 (by omega) rfl rfl ?_;(conv=>whnf))|(refine DI 3 (by omega) rfl rfl ?_;(conv=>whnf))|(refine DI 4 (by omega) rfl rfl ?_;(conv=>whnf))|(refine DI 5 (by omega) rfl rfl ?_;(conv=>whnf))|(refine DI 6 (by omega) rfl rfl ?_;(conv=>whnf))|(refine DI 7 (by omega) rfl rfl ?_;(conv=>whnf))|(refine DI 8 (by omega) rfl rfl ?_;(conv=>whnf))|(refine DI 9 (by omega) rfl rfl ?_;(conv=>whnf))|(refine DI 10 (by omega) rfl rfl ?_;(conv=>whnf))|(refine DI 11 (by omega) rfl rfl ?_;(conv=>whnf))|(refine DI 12 (by omega) rfl rfl ?_;(conv=>whnf))|(refine DI 13 (by omega) rfl rfl ?_;(conv=>whnf))|(refine DI 14 (by omega) rfl rfl ?_;(conv=>whnf))|(refine DI 15 (by omega) rfl rfl ?_;(conv=>whnf))|(refine B7 rfl ?_;(conv=>whnf))|(refine B7 ⟨by omega,by omega⟩ ?_;(conv=>whnf)))
    (repeat' ((first|(apply BB<;>intro hc<;>try omega)|(apply B7;omega)|(apply BS;omega)|(apply FU;omega)|apply A7|refine AY (Ck _ (by simp)) ?_|refine AY (Cj _ (by simp)) ?_)<;>conv=>whnf)))
   try (refine B7 rfl ?_;(conv=>whnf))
   repeat (refine JW rfl rfl ?_;(conv=>whnf))
   refine AY mn ?_;(conv=>whnf)
   skip
   try (refine B7 rfl ?_;(conv=>whnf))
   repeat (refine JW rfl rfl ?_;(conv=>whnf))
   refine AY mo ?_;(conv=>whnf)
   (repeat' ((first|(apply BB<;>intro hc<;>try omega)|refine AY (hN) ?_|refine AY (hL) ?_|refine AY (rh) ?_)<;>conv=>whnf))
   try (refine B7 rfl ?_;(conv=>whnf))
   repeat (refine JW rfl rfl ?_;(conv=>whnf))
   refine AY hY ?_;(conv=>whnf)
   skip
   exact H8 rfl
 ·match X,hX,Z,hZ with
  | [x0,x1,x2,x3,x4,x5,x6,x7,x8,x9,xa,xb,xc,xd,xe,xf],_,[z0,z1,z2,z3,z4,z5,z6,z7,z8,z9,za,zb,zc,zd,ze,zf],_ =>
   simp only[List.map_cons,List.map_nil]at tt;refine Ev.x N.IA rfl rfl ?_;(repeat' ((first|apply A7|refine AY (hW) ?_)<;>conv=>whnf))
   refine FN 1000 N.IE rfl rfl ?_;(repeat' ((first|(apply BS;omega)|(apply FU;omega)|apply A7)<;>conv=>whnf))
   refine OP (enc:=eQ) 16 (hR _) rfl ?_;(conv=>whnf)
   (repeat' ((first|(apply B7;omega)|(apply BS;omega)|(apply FU;omega)|(refine PA ?_ (λ_=>rfl) (λ v hv => ?_);omega)|(apply ON;omega))<;>conv=>whnf))
   obtain rfl:xf=v:=Option.some.inj hv;repeat (refine JF ?_;(repeat' ((first|(apply BB<;>intro hc<;>try omega)|(apply B7;omega)|(apply BS;omega)|(apply FU;omega)|(apply ON;omega)|apply A7)<;>conv=>whnf)))
   refine ⟨rfl,?_⟩;(conv=>whnf)
   (repeat' ((first|(apply BS;omega)|(apply DC;omega)|(apply FU;omega)|(refine JN ?_ (λ_ _ => ?_);omega)|(apply DL;omega)|refine AY (hD) ?_|refine AY (hC) ?_|refine AY (hU) ?_|refine AY (qp) ?_|refine AY (tt _) ?_)<;>conv=>whnf))
   repeat (
    (first|refine JF ?_|(refine fQ rfl rfl ?_;(conv=>whnf))|(refine DI 0 (by omega) rfl rfl ?_;(conv=>whnf))|(refine DI 1 (by omega) rfl rfl ?_;(conv=>whnf))|(refine DI 2 (by omega) rfl rfl ?_;(conv=>whnf))|(refine DI 3 (by omega) rfl rfl ?_;(conv=>whnf))|(refine DI 4 (by omega) rfl rfl ?_;(conv=>whnf))|(refine DI 5 (by omega) rfl rfl ?_;(conv=>whnf))|(refine DI 6 (by omega) rfl rfl ?_;(conv=>whnf))|(refine DI 7 (by omega) rfl rfl ?_;(conv=>whnf))|(refine DI 8 (by omega) rfl rfl ?_;(conv=>whnf))|(refine DI 9 (by omega) rfl rfl ?_;(conv=>whnf))|(refine DI 10 (by omega) rfl rfl ?_;(conv=>whnf))|(refine DI 11 (by omega) rfl rfl ?_;(conv=>whnf))|(refine DI 12 (by omega) rfl rfl ?_;(conv=>whnf))|(refine DI 13 (by omega) rfl rfl ?_;(conv=>whnf))|(refine DI 14 (by omega) rfl rfl ?_;(conv=>whnf))|(refine DI 15 (by omega) rfl rfl ?_;(conv=>whnf))|(refine B7 rfl ?_;(conv=>whnf))|(refine B7 ⟨by omega,by omega⟩ ?_;(conv=>whnf)))
    (repeat' ((first|(apply BB<;>intro hc<;>try omega)|(apply B7;omega)|(apply BS;omega)|(apply FU;omega)|apply A7|refine AY (Ck _ (by simp)) ?_|refine AY (Cj _ (by simp)) ?_)<;>conv=>whnf)))
   try (refine B7 rfl ?_;(conv=>whnf))
   repeat (refine JW rfl rfl ?_;(conv=>whnf))
   refine AY mn ?_;(conv=>whnf)
   skip
   try (refine B7 rfl ?_;(conv=>whnf))
   repeat (refine JW rfl rfl ?_;(conv=>whnf))
   refine AY mo ?_;(conv=>whnf)
   (repeat' ((first|(apply BB<;>intro hc<;>try omega)|refine AY (hN) ?_|refine AY (hL) ?_|refine AY (rh) ?_)<;>conv=>whnf))
   try (refine B7 rfl ?_;(conv=>whnf))
   repeat (refine JW rfl rfl ?_;(conv=>whnf))
   refine AY hY ?_;(conv=>whnf)
   skip
   exact H8 rfl
theorem Afi (N:ct L) (S:EV) (n k:Nat) (q:Bool) (h:S.Ok n k) (hn:n<=64) (hk:k<2199023255552):Ev L 167 [.agg (OD q S),.agg (eS S)] (.bool true):=by
 have hD:=YJ N.toa8 h.bd h.bd hk hk;rw[jG.2 rfl]at hD;have hB:=λ q=>ZW N.toa8 S.b S.b q false k h.bb h.bb hk (by have:=h.lb;omega)
 have hC:=λ q=>ZW N.toa8 S.c S.c q false k h.bc h.bc hk (by have:=h.lc;omega)
 simp only[decide_true]at hB hC;have Bi:=h.la;refine Ev.x N.P2 rfl rfl ?_;(repeat' ((first|(apply BB<;>intro hc<;>try omega)|apply BR|apply A7|refine AY (hB _) ?_|refine AY (hC _) ?_|refine AY (hD) ?_)<;>conv=>whnf))
 refine HC (λ i=>S.a.length-i) (λ(i:Nat)=>i<=S.a.length) (λ i=>[(5,.int .i64 i)]) (λ_=>[]) 0 (by omega) ?_;intro i p1 ih;by_cases hi:i<S.a.length
 ·obtain ⟨r,hr⟩ : ∃ r,S.a[i]? = some r:=⟨_,zE hi⟩
  have Fo:S.a[(i:Int).toNat]? = some r:=hr;have Bo:=h.ba r (zM hr);have Ft:=h.lr r (zM hr);have hR:=λ q=>ZW N.toa8 r r q false k Bo Bo hk (by omega)
  simp only[decide_true]at hR;(repeat' ((first|(apply BB<;>intro hc<;>try omega)|(apply BS;omega)|apply BR|(refine CT (by assumption) ?_ rfl ?_;omega)|apply A7|refine AY (hR _) ?_)<;>conv=>whnf))
  exact D0 [] (ih (i+1) (by omega) (by omega))
 ·obtain rfl:i=S.a.length:=by omega
  clear ih;(repeat' ((first|(apply BB<;>intro hc<;>try omega)|apply BR|apply A7)<;>conv=>whnf))
  exact H8 rfl
theorem AhM:XL ZF=false:=by decide
theorem Agm {S:EV} {c:Wd} {n k:Nat} (hS:S.Ok n k) (ha : ∀ r∈S.a,∀ y∈r,FT c (E6 c y)) (hb : ∀ y∈S.b,FT c (E6 c y)) (hc : ∀ y∈S.c,FT c (E6 c y)) (hd:FT c (E6 c S.d)):JT S c n=true:=by
 have key : ∀ (row:List Rat) (x:Rat),(∀ y∈row,FT c (E6 c y))->FT c (E6 c x)->GC c (DJ row x)=true:=λ row x h1 h2=>by
  rw[GC,List.all_eq_true];intro p hp;rw[DJ,List.mem_append]at hp;rcases hp with hp|hp
  ·obtain ⟨j,hj,rfl⟩:=List.mem_map.1 hp
   have uq:=List.mem_range.1 hj;refine decide_eq_true (h1 _ ?_);rw[List.getD_eq_getElem?_getD,zE uq];exact List.getElem_mem _
  ·obtain rfl:=List.mem_singleton.1 hp
   exact decide_eq_true h2
 refine Z6.2 λ m hm => ?_
 by_cases h:m<n
 ·obtain ⟨r,hr⟩ : ∃ r,S.a[m]? = some r:=⟨_,zE (by rw[hS.la];exact h)⟩
  obtain ⟨b,l7⟩ : ∃ b,S.b[m]? = some b:=⟨_,zE (by rw[hS.lb];exact h)⟩;rw[cB,QR hr h,QU l7 h];exact key r b (ha r (zM hr)) (hb b (zM l7))
 ·obtain rfl:m=n:=by omega
  rw[cB,VP,VX];exact key S.c S.d hc hd
theorem AiQ {c:Wd} (hc:WV c) {n:Nat} {X:List Rat} (hl:X.length=n*n+2*n+1) (hX:Bs 4 X):X4 (H2 n X) c:=by
 obtain ⟨h1,h2,h3,h4⟩:=rF (P:=J8 c) hl λ y hy=>AiO hc (hX y hy)
 exact ⟨h1,h2,h3,h4⟩
theorem Ajo {c:Wd} (hc:WV c) {n:Nat} {Z:List Int} (hl:Z.length=n*n+2*n+1) (hz : ∀ z∈Z,FT c z):(H2 n (Z.map λ z:Int=>(z:Rat)/((pw c.f:Int):Rat))).Ok n 30/\X4 (H2 n (Z.map λ z:Int=>(z:Rat)/((pw c.f:Int):Rat))) c/\sF (H2 n (Z.map λ z:Int=>(z:Rat)/((pw c.f:Int):Rat))) c/\JT (H2 n (Z.map λ z:Int=>(z:Rat)/((pw c.f:Int):Rat))) c n=true:=by
 have hw : ∀ y∈Z.map λ z:Int=>(z:Rat)/((pw c.f:Int):Rat),FT c (E6 c y)/\VZ c y/\J8 c y:=λ y hy=>by
  obtain ⟨z,h1,rfl⟩:=List.mem_map.1 hy;have hf:=hz z h1;obtain ⟨g1,g2,g3⟩:=AhL hc (z:=z) (by
   obtain ⟨_,a2,a3⟩:=hf;obtain ⟨b1,b2,b3,b4⟩:=pB hc;omega)
  exact ⟨by rw[g1];exact hf,g2,g3⟩
 have Sf:(Z.map λ z:Int=>(z:Rat)/((pw c.f:Int):Rat)).length=n*n+2*n+1:=by rw[List.length_map,hl]
 generalize (Z.map λ z:Int=>(z:Rat)/((pw c.f:Int):Rat))=X at *;have j9:=Ql Sf λ y hy=>(hw y hy).2.2.1
 obtain ⟨h1,h2,h3,h4⟩:=rF (P:=λ y=>FT c (E6 c y)/\VZ c y/\J8 c y) Sf hw;exact ⟨j9,⟨λ r hr y hy=>(h1 r hr y hy).2.2,λ y hy=>(h2 y hy).2.2,λ y hy=>(h3 y hy).2.2,h4.2.2⟩,⟨λ r hr y hy=>(h1 r hr y hy).2.1,λ y hy=>(h2 y hy).2.1,λ y hy=>(h3 y hy).2.1,h4.2.1⟩,Agm j9 (λ r hr y hy=>(h1 r hr y hy).1) (λ y hy=>(h2 y hy).1) (λ y hy=>(h3 y hy).1) h4.1⟩
theorem Adn {b:Int} {l:List Int} {n:Nat} (hb:0<=b) : ∀ z∈W6 b l n,-b<=z/\z<=b:=λ z hz=>by
 rw[W6]at hz;obtain ⟨i,_,rfl⟩:=List.mem_map.1 hz;have:=eP (v:=IntKind.i64.wrap (J9 l (i:Int)+b)) (m:=2*b+1) (by omega)
 unfold Ui;omega
theorem Afy (I:g9 L) (N:fc L) (l:List Int) (size data fh:Int) (Eb q:Bool) (hl : ∀ v∈l,JR v) (hs:JR size) (hd:JR data) (hcI:JR fh) :
  Ev L 392 [.sl q (l.map GJ),.int .i64 size,.int .i64 data,.int .i64 fh,.bool Eb] (.bool true):=by
 have W:o4 L:=N.too4;obtain ⟨g1,g2⟩:=eP (v:=size) (m:=4) (by omega);have hW:=gX W size 4 hs (by omega);generalize HT size 4=z1 at *;obtain ⟨n,rfl⟩:=Int.eq_ofNat_of_zero_le g1;have hn:n<=3:=by omega
 have mg:n*n<=9:=Nat.mul_le_mul hn hn;have hD:=Agd W data hd;have hC:=Agc W fh hcI;have d1:=(Zd data).1;obtain ⟨c1,c2,c3⟩:=Zv fh;generalize cN data=d at *;generalize cH fh=c at *;have c1':=c1;unfold WV at c1';have hU:=Age W c c1;have hp:=PX c.f;have Hd:=XP (n:=c.f) (m:=23) (by omega);have uz:pw 23=8388608:=by unfold pw;rfl
 have qp:=gU N.toa8 1 (pw c.f) (by omega) (by omega);have hR:=λ q=>Afg N.tocj l q (n*n+2*n+1) hl (by omega)
 have hX:=qA l (n*n+2*n+1);have Ro:=Aik l (n*n+2*n+1);have rh:=Afx N.tofe;generalize S6 l (n*n+2*n+1)=X at *;have hO : ∀ {S:EV} {m:Nat},(EF S d c m).nodes.length=m+1/\(EF S d c m).next.length=m:=λ{S m}=>by simp [EF,GM,HX]
 cases Eb with
 | false =>
  have j9:=Ql hX Ro;have cp:=AiQ c1 hX Ro;obtain ⟨mn,mo⟩:=wX I N.tow8 (H2 n X) true d c d1 c1 n 4 j9 hn (by omega) cp;by_cases hf:JT (H2 n X) c n=true
  ·rw[if_pos hf]at mn mo
   obtain ⟨b1,b2,b3⟩:=tK d1 c1 j9 hn hf;have hN:=mT I N.tocr (EF (H2 n X) d c n) (by omega) (λ nd h=>by
    have:=b2.len nd.ts (List.mem_map.2 ⟨nd,h,rfl⟩)
    omega) (by rw[hO.2];omega)
   have hL:=vY I N.toy8 (EF (H2 n X) d c n) b1 b2 b3;exact wA N l q size data fh d c c1 n hn hW X hX hR hD hC hU qp (EF (H2 n X) d c n) 0 0 _ _ _ _ _ _ mn mo hN hL rh
  ·rw[if_neg hf]at mn mo
   have hN:=mT I N.tocr ZF (by simp [ZF]) (λ nd h=>by simp [ZF]at h) (by simp [ZF]);have hL:=Aff I N.toy8 ZF AhM;exact wA N l q size data fh d c c1 n hn hW X hX hR hD hC hU qp ZF 17 2 [] [] [] [] [] false mn mo hN hL rh
 | true =>
  obtain ⟨b1',b2',b3',b4'⟩:=pB c1;have tt:=λ q=>Agb W (pw (c.b-1)-1) (by omega) l q (n*n+2*n+1) (by omega)
  have hZ:(W6 (pw (c.b-1)-1) l (n*n+2*n+1)).length=n*n+2*n+1:=by simp [W6]
  have hr:=Adn (l:=l) (n:=n*n+2*n+1) (show 0<=pw (c.b-1)-1 by omega);generalize W6 (pw (c.b-1)-1) l (n*n+2*n+1)=Z at *;have Rx : ∀ z∈Z,FT c z:=λ z hz=>⟨c1,by have:=hr z hz;omega,by have:=hr z hz;omega⟩
  obtain ⟨j9,cp,hfi,hf⟩:=Ajo c1 hZ Rx;have Ck : ∀ z∈Z,Ev L 124 [.int .i64 z] (.agg (eQ (z:Rat))):=λ z hz=>ZY N.toa8 z (by have:=hr z hz;omega)
  have bst:Bt 24 (Rat.divInt 1 (pw c.f)):=by
   obtain ⟨e,he⟩:=Int.eq_ofNat_of_zero_le (show 0<=pw c.f by omega);rw[he,Rat.divInt_ofNat];have:(2:Nat)^24=16777216:=rfl
   exact Bt.mk (by omega) (by omega)
  have Cj : ∀ z∈Z,Ev L 128 [.agg (eQ (Rat.divInt 1 (pw c.f))),.agg (eQ (z:Rat))] (.agg (eQ ((z:Rat)/((pw c.f:Int):Rat)))):=λ z hz=>by
   have bz:Bt 24 (z:Rat):=Bt.ofInt (Rx z hz).abs;have:=wI N.toa8 bst bz (by omega) (by omega)
   rw[show Rat.divInt 1 (pw c.f)*(z:Rat)=(z:Rat)/((pw c.f:Int):Rat) by
    rw[Rat.divInt_eq_div,Rat.div_def,Rat.div_def,Rat.mul_comm,show ((1:Int):Rat)=1 from rfl,Rat.one_mul]]at this
   exact this
  obtain ⟨mn,mo⟩:=wX I N.tow8 _ true d c d1 c1 n 30 j9 hn (by omega) cp;rw[if_pos hf]at mn mo;obtain ⟨b1,b2,b3⟩:=tK d1 c1 j9 hn hf;have hN:=mT I N.tocr (EF (H2 n (aX c Z)) d c n) (by rw[hO.1];omega) (λ nd h=>by
   have:=b2.len nd.ts (List.mem_map.2 ⟨nd,h,rfl⟩)
   omega) (by rw[hO.2];omega)
  have hL:=vY I N.toy8 _ b1 b2 b3;rw[Ahr j9 hfi]at hL;have hY:=Afi N.toct _ n 30 true j9 (by omega) (by omega);exact Afl N l q size data fh d c c1 n hn hW X hX hR hD hC hU qp Z hZ tt Ck Cj _ mn mo hN hL hY rh
end Go.e6
