/-
  The reference of layer 9: Valid, Identity, Times, Same.
-/
import Derived.Test.YtcoldcgafbbjoaaGreatB1
import Derived.Test.YtcoldcgafbbjoaaGreatB8
import Derived.Test.YtcoldcgafbbjoaaGreatB10
import Derived.Test.YtcoldcgafbbjoaaGreatB11
import Derived.Test.YtcoldcgafbbjoaaGreatB2
import Derived.Test.YtcoldcgafbbjoaaGreatB9
set_option linter.unusedSimpArgs false
set_option linter.unusedVariables false
set_option linter.unnecessarySimpa false
namespace Go.g6
open F
attribute [local irreducible] AA AF AM AD CZ AX A9 BG B8 B6 CT D8 B9 BF B1 CR AB A6 AJ pw BN BH CQ CK C6 C7 CW BV D4
variable {L:Lib}
set_option maxHeartbeats 16000000
set_option maxRecDepth 8000
theorem oR (N:m5 L) (n:Nat) (hn:1<=n/\n<=52):Ev L 240 [.int .i64 n] (.g9 [.sl false (eM (DK n)),.int .i64 0]):=by
 have hO:=S8 N.tob8 0 (by omega);have hI:=S8 N.tob8 1 (by omega);have fm : ∀ i,i<n->(DK n)[i]? = some (FR n i):=λ i hi=>by simp [DK,hi]
 have ct:(DK n).length=n:=by simp [DK]
 generalize hT:DK n=T at *;refine Ev.x N.J1 rfl rfl ?_;(repeat' ((first|(apply AG<;>intro hc<;>try omega)|apply AC)<;>conv=>whnf))
 refine QH 4 4 rfl ?_;refine DT (λ i=>n-i) (λ(i:Nat)=>i<=n) (λ i=>[(5,.int .i64 i),(4,.row 4 0 1 0 i)]) (λ i=>[(4,4,.mx (A8 3 eQ (T.take i)))]) 0 (by omega) ?_;intro i p1 ih;have Bf:(T.take i).length=i:=by rw[List.length_take];omega
 by_cases hi:i<n
 ·have yn:=K2 (fm i hi)
  generalize T.take i=R0 at *;(repeat' ((first|(apply AG<;>intro hc<;>try omega)|apply AC)<;>conv=>whnf))
  refine ER (enc:=eO) none n rfl (by omega) (by omega) ?_;(conv=>whnf)
  skip
  refine D0 (λ j=>n-j) (λ(j:Nat)=>j<=n) (λ j=>[(23,.int .i64 j)]) (λ j=>[(20,20,.rw 3 ((DG (List.replicate j 0) n).map eO))]) [] [] 0 (by first|exact (by (conv=>whnf);exact ⟨rfl,rfl,rfl⟩)|(rw[List.replicate_zero,<-I7];exact (by (conv=>whnf);exact ⟨rfl,rfl,rfl⟩))) (by omega) ?_;intro j r2 jh;have ka:(List.replicate j (0:Rat)).length=j:=by simp
  have Ax:=H6 (l:=List.replicate j (0:Rat)) (m:=n) (by omega);by_cases hj:j<n
  ·have hs:=I8 (l:=List.replicate j (0:Rat)) (m:=n) (x:=((0:Int):Rat)) (by omega)
   rw[ka,show List.replicate j (0:Rat)++[((0:Int):Rat)]=List.replicate (j+1) 0 from List.replicate_succ'.symm]at hs;generalize DG (List.replicate j (0:Rat)) n=W at *;(repeat' ((first|(apply AG<;>intro hc<;>try omega)|(apply AU;omega)|apply AC|refine AE (hO) ?_)<;>conv=>whnf))
   refine FJ (enc:=eO) (some ((0:Int):Rat)) rfl (λ e=>by cases e<;>rfl) (by omega) ?_;(conv=>whnf)
   rw[hs];(repeat' ((first|(apply A0;omega)|fail)<;>conv=>whnf))
   exact BR [] (jh (j+1) (by omega) (by omega))
  obtain rfl:j=n:=by omega
  clear jh;rw[I6 (by omega)];(repeat' ((first|(apply AG<;>intro hc<;>try omega)|(apply AU;omega)|apply AC|refine AE (hI) ?_)<;>conv=>whnf))
  refine FJ (enc:=eQ) ((1:Int):Rat) rfl (λ_=>rfl) (by omega) ?_;rw[show (List.replicate j (0:Rat)).set i ((1:Int):Rat)=FR j i from wB j i];(conv=>whnf)
  skip
  have kn:=WQ j i;generalize FR j i=u at *;refine AU (by rw[List.length_map];omega) ?_;refine QI (r:=u) (en:=eQ) Bf.symm (by omega) (by omega) ?_;rw[<-yn,show (T.take (i+1)).length=i+1 by rw[List.length_take];omega];(conv=>whnf)
  (repeat' ((first|(apply A0;omega)|fail)<;>conv=>whnf))
  exact BR [(4,38)] (ih (i+1) (by omega) (by omega))
 ·obtain rfl:i=n:=by omega
  clear ih;rw[zT (by omega)];(repeat' ((first|(apply AG<;>intro hc<;>try omega)|apply AC)<;>conv=>whnf))
  refine KH (λ_=>rfl) rfl ct.symm ?_;(conv=>whnf)
  exact AY rfl (H2 T 0)
theorem VE (N:m5 L) (q1 q2 q3 q4:Bool) (a:List (List Rat)) (k:Nat) (hl:a.length<=1000) (hw : ∀ r∈a,r.length<=1000) (bj:Ms k a) (hk:k<2199023255552):Ev L 242 [.sl q1 (LE q2 a),.sl q3 (LE q4 a)] (.bool true):=by
 refine Ev.x N.NK rfl rfl ?_;(repeat' ((first|(apply AG<;>intro hc<;>try omega)|apply AW|apply AC)<;>conv=>whnf))
 refine DT (λ i=>a.length-i) (λ(i:Nat)=>i<=a.length) (λ i=>[(13,.int .i64 i)]) (λ_=>[]) 0 (by omega) ?_;intro i p1 ih;by_cases hi:i<a.length
 ·obtain ⟨r,hr⟩ : ∃ r,a[i]? = some r:=⟨_,zE hi⟩
  have mn:a[(i:Int).toNat]? = some r:=hr;have hS:=cW N.tom6 q2 q4 r k (bj.at hr) hk (by have:=hw r (zM hr);omega);(repeat' ((first|(apply AG<;>intro hc<;>try omega)|(apply A0;omega)|(refine BD (by assumption) ?_ rfl ?_;omega)|apply AC|refine AE (hS) ?_)<;>conv=>whnf))
  exact BR [] (ih (i+1) (by omega) (by omega))
 ·obtain rfl:i=a.length:=by omega
  clear ih;(repeat' ((first|(apply AG<;>intro hc<;>try omega)|apply AC)<;>conv=>whnf))
  exact ES rfl
abbrev BO (q:Bool) (m:List (List AQ)):List (List AV):=m.map λ r=>[AV.sl q (r.map eW)]
def vM (m:List (List AQ)):List (List Rat):=m.map λ r=>r.map AQ.v
def AQ.Fit (k:Nat) (w:AQ):Prop:=Bt k w.v/\w.Sz 68719476736
def CD (k:Nat) (m:List (List AQ)):Prop := ∀ r∈m,∀ x∈r,x.Fit k
def wR (r:List Rat):List AQ:=r.map KY
def wM (m:List (List Rat)):List (List AQ):=m.map wR
theorem YB (r:List Rat):(wR r).map eW=r.map eQ:=by
 rw[wR,List.map_map];rfl
theorem aF (r:List Rat):(wR r).map AQ.v=r:=by
 rw[wR,List.map_map];exact (List.map_congr_left λ x _=>TW x).trans (List.map_id' r)
theorem OT (q:Bool) (m:List (List Rat)):BO q (wM m)=LE q m:=by
 simp only[wM,List.map_map,Function.comp_def,YB]
theorem K4 (m:List (List Rat)):vM (wM m)=m:=by
 simp only[vM,wM,List.map_map,Function.comp_def,aF,List.map_id']
theorem RF {k:Nat} {x:Rat} (h:Bt k x) (hk:k<2199023255552):(KY x).Fit k:=by
 refine ⟨by rw[TW];exact h,?_⟩;exact h.um hk
theorem CD.of {k:Nat} {m:List (List Rat)} (h:Ms k m) (hk:k<2199023255552):CD k (wM m):=λ r hr x hx=>by
 obtain ⟨s,hs,rfl⟩:=List.mem_map.1 hr;obtain ⟨y,hy,rfl⟩:=List.mem_map.1 hx;exact RF (h s hs y hy) hk
theorem CD.ms {k:Nat} {m:List (List AQ)} (h:CD k m):Ms k (vM m):=λ r hr x hx=>by
 obtain ⟨s,hs,rfl⟩:=List.mem_map.1 hr;obtain ⟨y,hy,rfl⟩:=List.mem_map.1 hx;exact (h s hs y hy).1
theorem AQ.Sz.fit {w:AQ} {k:Nat} (h:w.Sz k) (hk:k<=68719476736):w.Fit (32*k):=⟨AQ.bt h,h.1.le hk,h.2.le hk⟩
theorem F9 {m:List (List AQ)} {n:Nat} (h:m.length=n):(vM m).length=n:=by rw[vM,List.length_map];exact h
theorem GK {m:List (List AQ)} {w:Nat} (h : ∀ r∈m,r.length=w) : ∀ r∈vM m,r.length=w:=λ r hr=>by
 obtain ⟨s,hs,rfl⟩:=List.mem_map.1 hr;rw[List.length_map];exact h s hs
theorem PC {m:List (List Rat)} {n:Nat} (h:m.length=n):(wM m).length=n:=by rw[wM,List.length_map];exact h
theorem PD {m:List (List Rat)} {w:Nat} (h : ∀ r∈m,r.length=w) : ∀ r∈wM m,r.length=w:=λ r hr=>by
 obtain ⟨s,hs,rfl⟩:=List.mem_map.1 hr;rw[wR,List.length_map];exact h s hs
theorem SC {r:List AQ} {j:Nat} {x:AQ} (h:r[j]? = some x):(r.map AQ.v)[j]? = some x.v:=by rw[List.getElem?_map,h];rfl
theorem GV {m:List (List AQ)} {i:Nat} {r:List AQ} (h:m[i]? = some r):(vM m)[i]? = some (r.map AQ.v):=by rw[vM,List.getElem?_map,h];rfl
def jX {α:Type} (a:List (List α)) (n w:Nat):Prop:=a.length=n/\(∀ r∈a,r.length=w)/\(1<=n/\n<=52)/\1<=w/\w<=52
def FZ {α:Type} (a:List (List α)):Bool:=decide (1<=a.length/\a.length<=52)&&(decide (1<=(a.headD []).length/\(a.headD []).length<=52)&&a.all λ r=>decide (r.length=(a.headD []).length))
theorem P8 {α:Type} {a:List (List α)}:FZ a=true ↔ ∃ n w,jX a n w:=by
 constructor
 ·intro h
  simp only[FZ,Bool.and_eq_true,decide_eq_true_eq,List.all_eq_true]at h;exact ⟨a.length,(a.headD []).length,rfl,h.2.2,h.1,h.2.1⟩
 ·rintro ⟨n,w,h1,h2,h3,h4⟩
  have hd:(a.headD []).length=w:=by
   cases a with
   | nil=>simp at h1;omega
   | cons r a=>exact h2 r (by simp)
  simp only[FZ,Bool.and_eq_true,decide_eq_true_eq,List.all_eq_true];rw[hd,h1];exact ⟨h3,h4,h2⟩
theorem tG {α:Type} {a:List (List α)} {r:List α} (h:a[0]? = some r):a.headD []=r:=by
 cases a with
 | nil=>simp at h
 | cons x a=>simpa using h
theorem UK {α:Type} {p:α->Bool} {l:List α} {i:Nat} {x:α} (hx:l[i]? = some x) (h:p x=false):l.all p=false:=by
 rw[List.all_eq_false];exact ⟨x,zM hx,by rw[h];decide⟩
theorem XF {α:Type} {p:α->Bool} {l:List α} (h : ∀ (j:Nat) (x:α),l[j]? = some x->p x=true):l.all p=true:=by
 rw[List.all_eq_true];intro x hx;obtain ⟨j,hj⟩:=List.getElem?_of_mem hx;exact h j x hj
theorem oA (N:e8 L) (q q':Bool) (a:List (List AQ)) (hn:a.length<=100000) (hr : ∀ r∈a,r.length<=100000):Ev L 229 [.sl q (BO q' a)] (.bool (FZ a)):=by
 by_cases h0:1<=a.length/\a.length<=52
 ·obtain ⟨r0,k9⟩ : ∃ r,a[0]? = some r:=⟨_,zE (by omega)⟩
  have ek:a[(0:Int).toNat]? = some r0:=k9;have da:=hr r0 (zM k9);have hB:FZ a=(decide (1<=r0.length/\r0.length<=52)&&a.all λ r=>decide (r.length=r0.length)):=by
   rw[FZ,decide_eq_true h0,Bool.true_and,tG k9]
  rw[hB];refine Ev.x N.JR rfl rfl ?_;(repeat' ((first|(apply AG<;>intro hc<;>try omega)|apply AW|(refine BD (by assumption) ?_ rfl ?_;omega)|apply AC)<;>conv=>whnf))
  refine DT (λ i=>a.length-i) (λ(i:Nat)=>i<=a.length /\ ∀ j x,j<i->a[j]? = some x->x.length=r0.length) (λ i=>[(20,.int .i64 i)]) (λ_=>[]) 0 ⟨by omega,by omega⟩ ?_;intro i ⟨p1,p2⟩ ih;by_cases hi:i<a.length
  ·obtain ⟨r,dc⟩ : ∃ r,a[i]? = some r:=⟨_,zE (by omega)⟩
   have mn:a[(i:Int).toNat]? = some r:=dc;have hl:=hr r (zM dc);by_cases he:r.length=r0.length
   ·(repeat' ((first|(apply AG<;>intro hc<;>try omega)|(apply A0;omega)|apply AW|(refine BD (by assumption) ?_ rfl ?_;omega)|apply AC)<;>conv=>whnf))
    exact BR [] (ih (i+1) (by omega) ⟨by omega,λ j x hj hx=>by
     by_cases e:j=i
     ·subst e;rw[dc]at hx;obtain rfl:=Option.some.inj hx;exact he
     ·exact p2 j x (by omega) hx⟩)
   ·rw[UK dc (decide_eq_false he),Bool.and_false]
    (repeat' ((first|(apply AG<;>intro hc<;>try omega)|apply AW|(refine BD (by assumption) ?_ rfl ?_;omega)|apply AC)<;>conv=>whnf))
    exact ES rfl
  ·obtain rfl:i=a.length:=by omega
   clear ih;rw[XF (p:=λ r=>decide (r.length=r0.length)) λ j x hx=>decide_eq_true (p2 j x (zS hx).1 hx),Bool.and_true];(repeat' ((first|(apply AG<;>intro hc<;>try omega)|apply AC)<;>conv=>whnf))
   all_goals exact ES (by simp;omega)
 ·rw[FZ,decide_eq_false h0,Bool.false_and]
  refine Ev.x N.JR rfl rfl ?_;(repeat' ((first|(apply AG<;>intro hc<;>try omega)|apply AW|apply AC)<;>conv=>whnf))
  all_goals exact ES rfl
theorem tH {α:Type} {a:List (List α)} {n w:Nat} (h:a.length=n) (hw : ∀ r∈a,r.length=w) (h1:1<=n/\n<=52) (h2:1<=w/\w<=52):FZ a=true:=P8.2 ⟨n,w,h,hw,h1,h2⟩
theorem PQ (N:e8 L) (q q':Bool) (a:List (List AQ)) (n w:Nat) (hn:a.length=n) (hw : ∀ r∈a,r.length=w) (h1:1<=n/\n<=52) (h2:1<=w/\w<=52):Ev L 229 [.sl q (BO q' a)] (.bool true):=by
 rw[<-tH hn hw h1 h2];exact oA N q q' a (by omega) λ r hr=>by rw[hw r hr];omega
theorem oS (N:m5 L) (q q':Bool) (a:List (List AQ)) (hn:a.length<=100000) (hr : ∀ r∈a,r.length<=100000):Ev L 239 [.sl q (BO q' a)] (.bool (FZ a)):=by
 by_cases h0:1<=a.length/\a.length<=52
 ·obtain ⟨r0,k9⟩ : ∃ r,a[0]? = some r:=⟨_,zE (by omega)⟩
  have ek:a[(0:Int).toNat]? = some r0:=k9;have da:=hr r0 (zM k9);have hB:FZ a=(decide (1<=r0.length/\r0.length<=52)&&a.all λ r=>decide (r.length=r0.length)):=by
   rw[FZ,decide_eq_true h0,Bool.true_and,tG k9]
  rw[hB];by_cases hw:1<=r0.length/\r0.length<=52
  ·rw[decide_eq_true hw,Bool.true_and]
   refine Ev.x N.IO rfl rfl ?_;(repeat' ((first|(apply AG<;>intro hc<;>try omega)|apply AW|(refine BD (by assumption) ?_ rfl ?_;omega)|apply AC)<;>conv=>whnf))
   refine DT (λ i=>a.length-i) (λ(i:Nat)=>i<=a.length /\ ∀ j x,j<i->a[j]? = some x->x.length=r0.length) (λ i=>[(29,.int .i64 i)]) (λ_=>[]) 0 ⟨by omega,by omega⟩ ?_;intro i ⟨p1,p2⟩ ih;by_cases hi:i<a.length
   ·obtain ⟨r,dc⟩ : ∃ r,a[i]? = some r:=⟨_,zE (by omega)⟩
    have mn:a[(i:Int).toNat]? = some r:=dc;have hl:=hr r (zM dc);by_cases he:r.length=r0.length
    ·(repeat' ((first|(apply AG<;>intro hc<;>try omega)|(apply A0;omega)|apply AW|(refine BD (by assumption) ?_ rfl ?_;omega)|apply AC)<;>conv=>whnf))
     exact BR [] (ih (i+1) (by omega) ⟨by omega,λ j x hj hx=>by
      by_cases e:j=i
      ·subst e;rw[dc]at hx;obtain rfl:=Option.some.inj hx;exact he
      ·exact p2 j x (by omega) hx⟩)
    ·rw[UK dc (decide_eq_false he)]
     (repeat' ((first|(apply AG<;>intro hc<;>try omega)|apply AW|(refine BD (by assumption) ?_ rfl ?_;omega)|apply AC)<;>conv=>whnf))
     exact ES rfl
   ·obtain rfl:i=a.length:=by omega
    clear ih;rw[XF (p:=λ r=>decide (r.length=r0.length)) λ j x hx=>decide_eq_true (p2 j x (zS hx).1 hx)];(repeat' ((first|(apply AG<;>intro hc<;>try omega)|apply AC)<;>conv=>whnf))
    all_goals exact ES rfl
  ·rw[decide_eq_false hw,Bool.false_and]
   refine Ev.x N.IO rfl rfl ?_;(repeat' ((first|(apply AG<;>intro hc<;>try omega)|apply AW|(refine BD (by assumption) ?_ rfl ?_;omega)|apply AC)<;>conv=>whnf))
   all_goals exact ES rfl
 ·rw[FZ,decide_eq_false h0,Bool.false_and]
  refine Ev.x N.IO rfl rfl ?_;(repeat' ((first|(apply AG<;>intro hc<;>try omega)|apply AW|apply AC)<;>conv=>whnf))
  all_goals exact ES rfl
theorem RC (N:m5 L) (q q':Bool) (a:List (List AQ)) (n w:Nat) (hn:a.length=n) (hw : ∀ r∈a,r.length=w) (h1:1<=n/\n<=52) (h2:1<=w/\w<=52):Ev L 239 [.sl q (BO q' a)] (.bool true):=by
 rw[<-tH hn hw h1 h2];exact oS N q q' a (by omega) λ r hr=>by rw[hw r hr];omega
theorem Ww (N:e8 L) (n:Int) (hn:n<1\/52<n):Ev L 230 [.int .i64 n] (.g9 [.sl false [],.int .i64 1]):=by
 refine Ev.x N.JO rfl rfl ?_;(repeat' ((first|(apply AG<;>intro hc<;>try omega)|apply AC)<;>conv=>whnf))
 all_goals exact AY rfl (by simp [A7,CJ,GL])
theorem Ads (N:m5 L) (n:Int) (hn:n<1\/52<n):Ev L 240 [.int .i64 n] (.g9 [.sl false [],.int .i64 1]):=by
 refine Ev.x N.J1 rfl rfl ?_;(repeat' ((first|(apply AG<;>intro hc<;>try omega)|apply AC)<;>conv=>whnf))
 all_goals exact AY rfl (by simp [A7,CJ,GL])
theorem Wm (N:e8 L) (q q':Bool) (a:List (List AQ)) (n WW k:Nat) {K:Nat} (ah:a.length=n) (z8 : ∀ r∈a,r.length=WW) (hn:1<=n/\n<=52) (hW:WW<=104) (bj:CD k a) (eo : ∀ r∈vM a,∀ j,Bt K (AZ (r.take j))) (wz:k<=K) (ur:K<=1000000000000) {kk:List It} {Q:Tm->Mem->Prop}
  (ae:AA L kk ([(5,.row 231019 0 3 0 n),(4,.row 231016 0 1 0 n)]++[(1000+26,.sl q (BO q' a)),(1000+23,.bool false),(1000+4,.int .i64 n),(1000+2,.ptr 2 0 0 0),(1000+0,.sl q (BO q' a))]) ([(231016,231016,.mx (A8 3 eQ (whole (vM a)))),(231019,231019,.rw 3 (((vM a).map AZ).map eQ))]++[(2,2,.bx [.bool false,.nil,.nil])]) Q) :
  AA L (.lp FK.l1 :: .g8 0::kk) ([(22,.int .i64 0),(21,.int .i64 n),(20,.sl q (BO q' a)),(5,.row 231019 0 3 0 n),(4,.row 231016 0 1 0 n)]++[(1000+26,.sl q (BO q' a)),(1000+23,.bool false),(1000+4,.int .i64 n),(1000+2,.ptr 2 0 0 0),(1000+0,.sl q (BO q' a))]) ([(231016,231016,.mx (List.replicate n none)),(231019,231019,.rw 3 ((List.replicate n none).map eO))]++[(2,2,.bx [.bool false,.nil,.nil])]) Q:=by
 have hI:=KM N.toa8 1 (by omega);refine KB (l:=[_,_]) rfl ?_;refine D0 (λ i=>n-i) (λ(i:Nat)=>i<=n) (λ i=>[(22,.int .i64 i)]) (λ i=>[(231016,231016,.mx (mz (whole (vM a)) n i)),(231019,231019,.rw 3 ((DG (((vM a).map AZ).take i) n).map eO))]) [] [] 0 (by first|exact (by (conv=>whnf);exact ⟨rfl,rfl,rfl⟩)|(rw[<-P5 (whole (vM a)),List.take_zero,<-I7];exact (by (conv=>whnf);exact ⟨rfl,rfl,rfl⟩))) (by omega) ?_;intro i p1 ih;have Dh:=P3 (Q:=whole (vM a)) p1;by_cases hi:i<n
 ·obtain ⟨r,hr⟩ : ∃ r,a[i]? = some r:=⟨_,zE (by omega)⟩
  have mn:a[(i:Int).toNat]? = some r:=hr;have cn:=z8 r (zM hr);have fe:=bj r (zM hr);obtain ⟨rv,kv⟩ : ∃ rv,r.map AQ.v=rv:=⟨_,rfl⟩;have rh:(vM a)[i]? = some rv:=by rw[<-kv,vM,List.getElem?_map,hr];rfl
  have qw:rv.length=WW:=by rw[<-kv,List.length_map];exact cn
  have v8 : ∀ (j:Nat) (x:AQ),r[j]? = some x->rv[j]? = some x.v:=λ j x hx=>by rw[<-kv,List.getElem?_map,hx];rfl
  have m4:=P4 (Q:=whole (vM a)) (i:=i) (n:=n) (row:=rv.map (· * AZ rv)) (by rw[whole,List.getElem?_map,rh];rfl) hi;have mo:((vM a).map AZ)[i]? = some (AZ rv):=by rw[List.getElem?_map,rh];rfl
  generalize mz (whole (vM a)) n i=R0 at *;have tf : ∀ j,Bt K (AZ (rv.take j)):=eo rv (zM rh);have gq:=tf WW;rw[zT (by omega)]at gq;(repeat' ((first|(apply AG<;>intro hc<;>try omega)|apply AW|(refine BD (by assumption) ?_ rfl ?_;omega)|apply AC|refine AE (hI) ?_)<;>conv=>whnf))
  try cases hr.symm.trans hv
  refine GW (λ j _=>WW-j) (λ(j:Nat) (s:Rat)=>j<=WW/\s=AZ (rv.take j)) (λ j _=>[(30,.int .i64 j)]) (λ_ s=>[(231008,231008,.bx (eQ s))]) 0 ((1:Int):Rat) ⟨by omega,by rw[List.take_zero];rfl⟩ ?_;intro j s ⟨p2,p3⟩ jh;by_cases hj:j<WW
  ·obtain ⟨x,hx⟩ : ∃ x,r[j]? = some x:=⟨_,zE (by omega)⟩
   have mw:r[(j:Int).toNat]? = some x:=hx;have mr:Bt K s:=by rw[p3];exact tf j
   have sx:=fe x (zM hx);have bx:=sx.1;have ck:=YH N.toa8 mr sx.2 (by omega) (Nat.le_refl _);have fi:=VC N.toa8 true mr (mr.mul bx).2 (by omega) (by omega);have uy:AZ (rv.take (j+1))=s*(((s*x.v).den:Nat):Rat):=by rw[G7 (v8 j x hx),WA,<-p3];rfl
   (repeat' ((first|(apply AG<;>intro hc<;>try omega)|(apply A0;omega)|(refine BD (by assumption) ?_ rfl ?_;omega)|refine HN rfl ?_|apply AC|refine AE (ck) ?_|refine AE (fi) ?_)<;>conv=>whnf))
   exact BL [] (by (conv=>whnf);exact ⟨rfl,rfl,rfl⟩) (jh (j+1) _ (by omega) ⟨by omega,uy.symm⟩)
  have ej:j=WW:=by omega
  clear jh;rw[zT (by omega)]at p3;subst p3;(repeat' ((first|(apply AG<;>intro hc<;>try omega)|apply AW|apply AC)<;>conv=>whnf))
  rw[cn];refine ER (enc:=eO) none WW rfl (by omega) (by omega) ?_;(conv=>whnf)
  (repeat' ((first|(apply AU;omega)|fail)<;>conv=>whnf))
  refine AU (by simp) ?_;refine K5 (i:=i) (by omega) (by omega) ?_;(conv=>whnf)
  (repeat' (apply AW<;>conv=>whnf))
  refine D0 (λ j=>WW-j) (λ(j:Nat)=>j<=WW) (λ j=>[(53,.int .i64 j)]) (λ j=>[(231016,231016,.mx (R0.set i (some (3,(DG ((rv.map (· * AZ rv)).take j) WW).map eO))))]) [] [] 0 (by first|exact (by (conv=>whnf);exact ⟨rfl,rfl,rfl⟩)|(rw[List.take_zero,<-I7];exact (by (conv=>whnf);exact ⟨rfl,rfl,rfl⟩))) (by omega) ?_;intro j r2 jh;have ka:((rv.map (· * AZ rv)).take j).length=j:=by rw[List.length_take,List.length_map];omega
  have Ax:=H6 (l:=(rv.map (· * AZ rv)).take j) (m:=WW) (by omega);by_cases hj:j<WW
  ·obtain ⟨x,hx⟩ : ∃ x,r[j]? = some x:=⟨_,zE (by omega)⟩
   have mw:r[(j:Int).toNat]? = some x:=hx;have sx:=fe x (zM hx);have ck:=YG N.toa8 sx.2 gq (Nat.le_refl _) (by omega);have hs:=I8 (l:=(rv.map (· * AZ rv)).take j) (m:=WW) (x:=x.v*AZ rv) (by omega);rw[ka,<-G7 (show (rv.map (· * AZ rv))[j]? = some (x.v*AZ rv) by rw[List.getElem?_map,v8 j x hx];rfl)]at hs;generalize DG ((rv.map (· * AZ rv)).take j) WW=W0 at *;(repeat' ((first|(apply AG<;>intro hc<;>try omega)|(apply AU;omega)|(refine BD (by assumption) ?_ rfl ?_;omega)|apply AC)<;>conv=>whnf))
   refine I2 (by omega) (by omega) ?_;(conv=>whnf)
   (repeat' (refine AE (ck) ?_<;>conv=>whnf))
   refine AU (by rw[List.length_map];omega) ?_;(conv=>whnf)
   skip
   refine GM (by omega) (by omega) ?_;(conv=>whnf)
   refine FJ (enc:=eO) (some (x.v*AZ rv)) rfl (λ e=>by cases e<;>rfl) (by omega) ?_;(conv=>whnf)
   rw[hs];refine KF (by omega) (by rw[List.length_map,List.length_map,<-hs,List.length_set]) ?_;(conv=>whnf)
   (repeat' ((first|(apply A0;omega)|fail)<;>conv=>whnf))
   exact BR [] (jh (j+1) (by omega) (by omega))
  have ej:j=WW:=by omega
  clear jh;rw[zT (by rw[List.length_map];omega),I6 (by rw[List.length_map];exact qw),m4];have mb:(((vM a).map AZ).take i).length=i:=by rw[List.length_take,List.length_map,vM,List.length_map];omega
  have Ir:=H6 (l:=((vM a).map AZ).take i) (m:=n) (by omega);have jc:=I8 (l:=((vM a).map AZ).take i) (m:=n) (x:=AZ rv) (by omega);rw[mb,<-G7 mo]at jc;generalize DG (((vM a).map AZ).take i) n=W1 at *;(repeat' ((first|(apply AG<;>intro hc<;>try omega)|(apply AU;omega)|apply AC)<;>conv=>whnf))
  refine FJ (enc:=eO) (some (AZ rv)) rfl (λ e=>by cases e<;>rfl) (by omega) ?_;(conv=>whnf)
  rw[jc];(repeat' ((first|(apply A0;omega)|fail)<;>conv=>whnf))
  exact BR [] (ih (i+1) (by omega) (by omega))
 have ei:i=n:=by omega
 clear ih;rw[ei,P2 (by simp [whole,vM,ah]),zT (by rw[List.length_map,vM,List.length_map];omega),I6 (by rw[List.length_map,vM,List.length_map];exact ah)];(repeat' ((first|(apply AG<;>intro hc<;>try omega)|apply AC)<;>conv=>whnf))
 exact BL [] (by (conv=>whnf);exact ⟨rfl,rfl,rfl⟩) ae
theorem Wl (N:e8 L)  {m0 m1:List (List Rat)} {n cw WW K0 c:Nat} {P:List Nat} {o:Bool} {l:Rat} {rp:List Rat} (sc:List Rat) (db:m0.length=n) (hn:1<=n/\n<=52) (hW:cw<=WW) (ta:WW<=104) (nb:1<=K0) (hB:6^n*K0<=1000000000000) (hP:P.length<n) (ft:c<cw) (hS:HX m0 K0 WW cw P c o l rp m1 (P.length+1)) {kk:List It} {Q:Tm->Mem->Prop}
  (ae : ∀ m2,HX m0 K0 WW cw P c o l rp m2 n->AA L kk ([(9,.bool o),(8,.int .i64 c),(7,.int .i64 (P.length:Nat)),(10,.ptr 233010 0 0 0),(5,.ptr 233005 0 0 0),(0,.row 231016 0 1 0 n),(0+1,.int .i64 cw)]++[(1000+32,.int .i64 n),(1000+31,.row 231016 0 1 0 n),(1000+6,.row 231019 0 3 0 n),(1000+5,.row 231016 0 1 0 n),(1000+4,.int .i64 n),(1000+2,.ptr 2 0 0 0)]) ([(231016,231016,.mx (A8 3 eQ m2)),(233010,233010,.bx (eQ l)),(233005,233005,.bx [.bool false,.nil,.nil])]++[(231019,231019,.rw 3 (sc.map eQ)),(2,2,.bx [.bool false,.nil,.nil])]) Q) :
  AA L (.lp G3.l4 :: .g8 6::kk) ([(12,.int .i64 ((P.length+1:Nat):Int)),(9,.bool o),(8,.int .i64 c),(7,.int .i64 (P.length:Nat)),(10,.ptr 233010 0 0 0),(5,.ptr 233005 0 0 0),(0,.row 231016 0 1 0 n),(0+1,.int .i64 cw)]++[(1000+32,.int .i64 n),(1000+31,.row 231016 0 1 0 n),(1000+6,.row 231019 0 3 0 n),(1000+5,.row 231016 0 1 0 n),(1000+4,.int .i64 n),(1000+2,.ptr 2 0 0 0)]) ([(231016,231016,.mx (A8 3 eQ m1)),(233010,233010,.bx (eQ l)),(233005,233005,.bx [.bool false,.nil,.nil])]++[(231019,231019,.rw 3 (sc.map eQ)),(2,2,.bx [.bool false,.nil,.nil])]) Q:=by
 refine KB (l:=[_,_]) rfl ?_;refine GW (λ_ i=>n-i) (λ(m:List (List Rat)) (i:Nat)=>HX m0 K0 WW cw P c o l rp m i/\P.length+1<=i/\i<=n) (λ_ i=>[(12,.int .i64 i)]) (λ m _=>[(231016,231016,.mx (A8 3 eQ m))]) m1 (P.length+1) ⟨hS,by omega,by omega⟩ ?_;clear hS;intro m2 i ⟨hS,j1,j2⟩ sh;have kp:=hS.len;rw[db]at kp;by_cases hj:i<n
 ·obtain ⟨rq,eg⟩ : ∃ r,m2[i]? = some r:=⟨_,zE (by omega)⟩
  have br:=hS.ht;have oh:=hS.o5.lr rq (zM eg);have ct:=hS.o5.lr rp (zM br);(repeat' ((first|(apply AG<;>intro hc<;>try omega)|(apply AU;omega)|(refine EK ?_ (λ r hr => ?_);omega)|apply AC)<;>conv=>whnf))
  rename_i rA Ha;cases eg.symm.trans Ha;cases br.symm.trans hr;rw[show 0+((i:Nat):Int).toNat=i by omega,show 0+((P.length:Nat):Int).toNat=P.length by omega,show (List.map eQ rq).length=WW by rw[List.length_map];exact oh,show (List.map eQ rp).length=WW by rw[List.length_map];exact ct];have gm:rq[c]? = some (rq.getD c 0):=GH (by omega);refine E2 1000 N.IA rfl rfl ?_;have eb:rp[c]? = some (rp.getD c 0):=GH (by omega);have xj:=hS.step (by omega) eg;have u9:(comb (rp.getD c 0) (rq.getD c 0) l rq rp).length=WW:=by rw[U0 (by omega)];exact oh
  have Fx:=λ j=>UZ (p:=rp.getD c 0) (f:=rq.getD c 0) (l:=l) (r:=rq) (t:=rp) (by omega) j
  have gb:=λ j (h:j<c)=>hS.o5.zr i rq (by omega) eg j h
  have tj:=λ j (h:j<c)=>hS.o5.zr P.length rp (Nat.le_refl _) br j h
  have Aq:=hS.hi i rq (Nat.le_refl i) eg;have Ap:=hS.bt;have gy:=hS.bl;have da:=hS.l0;have js:=Ap.at eb;have jt:=Aq.at gm;generalize pj:rp.getD c 0=pv at *;generalize Pj:rq.getD c 0=fv at *;generalize lk:comb pv fv l rq rp=cb at *;have og:cb.take c++rq.drop c=rq:=fI (by omega) λ j hj=>⟨by rw[Fx,gb j hj,tj j hj,Rat.zero_mul,Rat.zero_mul,Rat.sub_eq_add_neg,Rat.neg_zero,Rat.add_zero,Rat.div_def,Rat.zero_mul],gb j hj⟩
  have qg:=I9 (z:=3) eg;have Am:=I9 (z:=3) br;have Fh:(A8 3 eQ m2).length=n:=by simp only[A8,List.length_map];omega
  have yh:(A8 3 eQ m2).set i (some (3,cb.map eQ))=A8 3 eQ (m2.set i cb):=by simp only[A8,List.map_set]
  generalize A8 3 eQ m2=R2 at *;have pc:R2.set i (some (3,rq.map eQ))=R2:=R3 qg;(repeat' ((first|(apply AU;omega)|apply AC)<;>conv=>whnf))
  refine KE Am ?_;(conv=>whnf)
  (repeat' ((first|(apply AU;omega)|(refine DQ ?_ (λ_=>rfl) (λ v hv => ?_);omega))<;>conv=>whnf))
  cases eb.symm.trans hv;skip
  refine KE qg ?_;(conv=>whnf)
  (repeat' ((first|(refine DQ ?_ (λ_=>rfl) (λ v hv => ?_);omega)|fail)<;>conv=>whnf))
  cases gm.symm.trans hv;skip
  have Py:=Nat.le_trans (ZL nb P.length) (JX hB (show P.length+1<=n by omega));generalize 6^P.length*K0=BB at *;refine D0 (λ j=>WW-j) (λ(j:Nat)=>c<=j/\j<=WW) (λ j=>[(10,.int .i64 j)]) (λ j=>[(231016,231016,.mx (R2.set i (some (3,(cb.take j++rq.drop j).map eQ))))]) [] [] c (by first|exact (by (conv=>whnf);exact ⟨rfl,rfl,rfl⟩)|(rw[og,pc];exact (by (conv=>whnf);exact ⟨rfl,rfl,rfl⟩))) ⟨by omega,by omega⟩ ?_;intro j ⟨k1,k2⟩ jh;have bb:(cb.take j++rq.drop j).length=WW:=by rw[List.length_append,List.length_take,List.length_drop];omega
  by_cases Po:j<WW
  ·obtain ⟨x,hx⟩ : ∃ x,rq[j]? = some x:=⟨_,zE (by omega)⟩
   obtain ⟨y,hy⟩ : ∃ y,rp[j]? = some y:=⟨_,zE (by omega)⟩;have uv:cb[j]? = some ((x*pv-y*fv)/l):=by rw[<-lk];exact X0 hx hy
   have zi:=fG (a:=cb) (by omega) hx;have fc:=fH (b:=rq) (by omega) uv;have bx:=Aq.at hx;have si:=Ap.at hy
   have ck:=KL N.toa8 bx js (by omega) (by omega);have fi:=KL N.toa8 si jt (by omega) (by omega)
   have yx:=YL N.toaz (bx.mul js) (si.mul jt) (by omega) (by omega);have Ai:=Q9 N.toa8 ((bx.mul js).rz (si.mul jt)) gy (by omega) (by omega) da;have wk:(R2.set i (some (3,(cb.take j++rq.drop j).map eQ)))[P.length]? = some (some (3,rp.map eQ)):=by rw[List.getElem?_set,if_neg (by omega)];exact Am
   generalize cb.take j++rq.drop j=cm at *;(repeat' ((first|(apply AG<;>intro hc<;>try omega)|(apply AU;omega)|apply AC)<;>conv=>whnf))
   refine GM rfl (by omega) ?_;(conv=>whnf)
   (repeat' ((first|(refine DQ ?_ (λ_=>rfl) (λ v hv => ?_);omega)|fail)<;>conv=>whnf))
   cases zi.symm.trans hv;(repeat' ((first|(apply AU;omega)|refine AE (ck) ?_)<;>conv=>whnf))
   refine KE wk ?_;(conv=>whnf)
   (repeat' ((first|(refine DQ ?_ (λ_=>rfl) (λ v hv => ?_);omega)|fail)<;>conv=>whnf))
   cases hy.symm.trans hv;(repeat' ((first|refine AE (fi) ?_|refine AE (yx) ?_)<;>conv=>whnf))
   (repeat' ((first|(apply AU;omega)|refine AE (Ai) ?_)<;>conv=>whnf))
   refine GM rfl (by omega) ?_;(conv=>whnf)
   refine FJ (enc:=eQ) ((x*pv-y*fv)/l) rfl (λ_=>rfl) (by omega) ?_;rw[fc];(conv=>whnf)
   refine KF rfl (by rw[List.length_map,List.length_map,<-fc,List.length_set]) ?_;(conv=>whnf)
   (repeat' ((first|(apply A0;omega)|fail)<;>conv=>whnf))
   exact BR [] (jh (j+1) (by omega) ⟨by omega,by omega⟩)
  ·have ej:j=WW:=by omega
   clear jh;rw[zT (by omega),List.drop_of_length_le (by omega),List.append_nil,yh];(repeat' ((first|(apply AG<;>intro hc<;>try omega)|apply AC)<;>conv=>whnf))
   refine ⟨rfl,_,rfl,?_⟩;(conv=>whnf)
   (repeat' ((first|(apply A0;omega)|fail)<;>conv=>whnf))
   exact BR [] (sh (m2.set i cb) (i+1) (by omega) ⟨xj,by omega,by omega⟩)
 ·have ei:i=n:=by omega
  clear sh;rw[ei]at hS;(repeat' ((first|(apply AG<;>intro hc<;>try omega)|apply AC)<;>conv=>whnf))
  exact BL [] (by (conv=>whnf);exact ⟨rfl,rfl,rfl⟩) (ae m2 hS)
theorem UV (x:Rat):A7 (.g9 [.agg (eQ x),.int .i64 0]):=by
 simp only[A7,CJ,and_true,true_and];exact ⟨CS _,CS _⟩
theorem nO (N:e8 L) (q q':Bool) (aw:List (List AQ)) (n k:Nat) (k7:aw.length=n) (j9 : ∀ r∈aw,r.length=n) (hn:1<=n/\n<=52) (hk:1<=k) (cq:CD k aw) (hB:6^n*(3^n*k)<=1000000000000) :
  ∃ d:Rat,Ev L 236 [.sl q (BO q' aw)] (.g9 [.agg (eQ d),.int .i64 0])/\Bt 2000000000000 d/\(d≠0↔NS n (vM aw)) /\ ∀ (u:Rat) (D:List (List Rat)->Rat),EQ n n u D->D (vM aw)=u*d:=by
 obtain ⟨a,v8⟩ : ∃ a,vM aw=a:=⟨_,rfl⟩;rw[v8];have ah:a.length=n:=v8 ▸ F9 k7;have z8 : ∀ r∈a,r.length=n:=v8 ▸ GK j9;have bj:Ms k a:=v8 ▸ cq.ms;suffices h : ∃ v,Ev L 236 [.sl q (BO q' aw)] v /\ ∃ d:Rat,v = .g9 [.agg (eQ d),.int .i64 0]/\Bt 2000000000000 d/\(d≠0↔NS n a) /\ ∀ (u:Rat) (D:List (List Rat)->Rat),EQ n n u D->D a=u*d by
  obtain ⟨v,h1,m,rfl,h2,h3⟩:=h;exact ⟨m,h1,h2,h3⟩
 have hV:=PQ N true q' aw n n k7 j9 hn hn;have gx:=PQ N q q' aw n n k7 j9 hn hn;obtain ⟨r0,k9⟩ : ∃ r,aw[0]? = some r:=⟨_,zE (by omega)⟩;have ek:aw[(0:Int).toNat]? = some r0:=k9;have da:=j9 r0 (zM k9);have hO:=KM N.toa8 0 (by omega);have hI:=KM N.toa8 1 (by omega);have ur:3^n*k<=1000000000000:=by simpa using JX hB (Nat.zero_le n)
 refine Ev.xE N.H7 rfl rfl ?_;(repeat' ((first|(apply AG<;>intro hc<;>try omega)|apply AW|(refine BD (by assumption) ?_ rfl ?_;omega)|apply AC|refine AE (gx) ?_)<;>conv=>whnf))
 rw[k7];have hW:n<=104:=by omega
 refine E2 1000 N.FK rfl rfl ?_;(repeat' ((first|apply AW|apply AC)<;>conv=>whnf))
 unfold C6;refine ⟨⟨by omega,by omega,by simp only[D5];omega,by omega⟩,?_⟩;rw[Int.toNat_natCast];(conv=>whnf)
 (repeat' (apply AW<;>conv=>whnf))
 rw[k7];refine ER (enc:=eO) none n rfl (by omega) (by omega) ?_;(conv=>whnf)
 (repeat' (apply AW<;>conv=>whnf))
 rw[k7];refine BL [] (by (conv=>whnf);exact ⟨rfl,rfl,rfl⟩) (Wm N q q' aw n n k k7 j9 hn hW cq (v8.symm ▸ (SI hk z8 bj)) (SG k n) ur ?_);(repeat' (apply AC<;>conv=>whnf))
 refine ⟨rfl,_,rfl,?_⟩;(conv=>whnf)
 skip
 rw[v8];have db:(whole a).length=n:=by simp [whole,ah]
 have qt:=T6 z8;have qp:=SH hk z8 bj;have ew:a.length=(List.replicate n ([]:List Rat)).length:=by simp [ah]
 have jx:QU (whole a) (DI a (List.replicate n [])):=by rw[<-ah,qL];exact iU a
 have Le:=λ(u:Rat) (D:List (List Rat)->Rat) (hD:EQ n n u D)=>Wi hD ah z8
 have uz:KV (a.map AZ)≠0:=Afw λ x hx=>by
  obtain ⟨r,_,rfl⟩:=List.mem_map.1 hx;exact V9 r
 have nb:1<=3^n*k:=Nat.mul_pos (Nat.pow_pos (by omega)) hk;generalize whole a=m0 at *;have Mx : ∀ r∈a,Bt (3^n*k) (AZ r):=λ r hr=>(V8 hk (bj r hr)).le (by rw[z8 r hr];omega)
 generalize 3^n*k=K0 at *;have ta:=hW;have hW:=Nat.le_refl n;refine FB 1000 N.G3 rfl rfl ?_;(repeat' ((first|apply AC|refine AE (hI) ?_)<;>conv=>whnf))
 refine aN (λ_ P _ _ _=>n-P.length) (λ(m:List (List Rat)) (P:List Nat) (c:Nat) (odd:Bool) (l:Rat)=>EN m0 K0 n n m P c odd l) (λ_ P c odd _=>[(7,.int .i64 (P.length:Nat)),(8,.int .i64 c),(9,.bool odd)]) (λ m _ _ _ l=>[(231016,231016,.mx (A8 3 eQ m)),(233010,233010,.bx (eQ l))]) [] [] m0 [] 0 false ((1:Int):Rat) (by (conv=>whnf);exact ⟨rfl,rfl,rfl⟩) (EN.start qt qp) ?_;intro m P c odd l hE eh;have bb:=hE.len;have tu:=hE.o5.pl;rw[db]at bb;by_cases hP:P.length<n
 ·have Px:=JX hB (show P.length<=n by omega)
  (repeat' ((first|(apply AG<;>intro hc<;>try omega)|apply AC)<;>conv=>whnf))
  refine aP (l:=[_,_]) (λ(m1:List (List Rat)) (c:Nat) (o:Bool)=>EN m0 K0 n n m1 P c o l/\(c<n -> ∃ rp,m1[P.length]? = some rp/\rp.getD c 0≠0)) (λ_ c o=>[(8,.int .i64 c),(9,.bool o)]) (λ m1 _ _=>[(231016,231016,.mx (A8 3 eQ m1))]) [17] rfl ?_ ?_
  ·clear hE bb tu
   intro m1 c Hx ⟨hE,pj⟩;have bb:=hE.len;have tu:=hE.o5.pl;have ax:=hE.cc;rw[db]at bb;by_cases ft:c<n
   ·obtain ⟨rp,Ay,uz⟩:=pj ft
    clear pj;have hS:=hE.Oh ft Ay uz;(repeat' ((first|(apply AG<;>intro hc<;>try omega)|(apply A0;omega)|apply AC)<;>conv=>whnf))
    refine BL [] (by (conv=>whnf);exact ⟨rfl,rfl,rfl⟩) (Wl N  (a.map AZ) db hn hW ta nb hB hP ft hS λ m2 hS => ?_);have br:=hS.ht;have Hf:=hS.o5.lr rp (zM br);have eb:rp[c]? = some (rp.getD c 0):=GH (by omega);have kp:=hS.len;have ae:=hS.done nb (by omega);have nw:(P++[c]).length=P.length+1:=by simp
    generalize rp.getD c 0=pv at eb ae;clear hS hE uz Ay;(repeat' ((first|(apply AU;omega)|(refine EK ?_ (λ r hr => ?_);omega)|apply AC)<;>conv=>whnf))
    cases br.symm.trans hr;refine AU (by rw[List.length_map];omega) ?_;(conv=>whnf)
    (repeat' ((first|(apply A0;omega)|(refine DQ ?_ (λ_=>rfl) (λ v hv => ?_);omega)|refine EV (by assumption) ?_)<;>conv=>whnf))
    cases eb.symm.trans hv;skip
    rw[show ((P.length:Nat):Int)+1=((P++[c]).length:Nat) by rw[nw];omega];exact BL [] (by (conv=>whnf);exact ⟨rfl,rfl,rfl⟩) (eh m2 (P++[c]) (c+1) _ pv (by rw[nw];omega) ae)
   ·clear eh pj
    (repeat' ((first|(apply AG<;>intro hc<;>try omega)|apply AC)<;>conv=>whnf))
    refine ⟨rfl,?_⟩;(conv=>whnf)
    (repeat' ((first|(apply AG<;>intro hc<;>try omega)|fail)<;>conv=>whnf))
    have z9:n<=c\/n<=P.length:=Or.inl (by omega);have te:=YD (w:=0) hE jx ew z8 ah z9;(repeat' (refine AE (hO) ?_<;>conv=>whnf))
    refine ⟨.g9 [.agg (eQ 0),.int .i64 0],?_,0,rfl,Bt.zero _,⟨λ h=>absurd rfl h,λ h=>absurd (te.2 h) (by omega)⟩,λ u D hD=>by
     have h1:=hE.Bu db hP z9 hD;rw[Le u D hD]at h1;rw[Rat.mul_zero];rcases Rat.mul_eq_zero.1 h1 with h|h
     ·exact h
     ·exact absurd h uz⟩
    (conv=>whnf)
    exact AY rfl (UV 0)
  ·clear eh
   intro ea;refine D0 (λ c=>n-c) (λ(c:Nat)=>EN m0 K0 n n m P c odd l) (λ c=>[(8,.int .i64 c)]) (λ_=>[]) [17] [] c (by (conv=>whnf);exact ⟨rfl,rfl,rfl⟩) hE ?_;clear hE;intro c hE ch;have ax:=hE.cc;by_cases ft:c<n
   ·(repeat' ((first|(apply AG<;>intro hc<;>try omega)|apply AC)<;>conv=>whnf))
    refine DT (λ i=>n-i) (λ(i:Nat)=>P.length<=i/\i<=n /\ ∀ (q:Nat) (r:List Rat),P.length<=q->q<i->m[q]? = some r->r.getD c 0=0) (λ i=>[(11,.int .i64 i)]) (λ_=>[]) P.length ⟨Nat.le_refl _,by omega,λ q r h1 h2=>absurd h1 (by omega)⟩ ?_;intro i ⟨i1,i2,i3⟩ ih;by_cases hi:i<n
    ·obtain ⟨rp,k9⟩ : ∃ r,m[i]? = some r:=⟨_,zE (by omega)⟩
     have cn:=hE.o5.lr rp (zM k9);have cr:rp[c]? = some (rp.getD c 0):=GH (by omega);have qh:=dG N.toa8 (hE.ms.at k9 _ (zM cr)) (by omega);have hz:=ZX (x:=rp.getD c 0);generalize je:rp.getD c 0=rc at *;generalize fb rc.num=sg at *;by_cases mq:sg=0
     ·(repeat' ((first|(apply AG<;>intro hc<;>try omega)|(apply AU;omega)|(refine EK ?_ (λ r hr => ?_);omega)|apply AC)<;>conv=>whnf))
      cases k9.symm.trans hr;refine AU (by rw[List.length_map];omega) ?_;(conv=>whnf)
      (repeat' ((first|(refine DQ ?_ (λ_=>rfl) (λ v hv => ?_);omega)|refine EV (by assumption) ?_)<;>conv=>whnf))
      cases cr.symm.trans hv;(repeat' ((first|(apply AG<;>intro hc<;>try omega)|(apply A0;omega)|refine AE (qh) ?_)<;>conv=>whnf))
      refine BL [] (by (conv=>whnf);exact ⟨rfl,rfl,rfl⟩) (ih (i+1) (by omega) ⟨by omega,by omega,λ q x h1 h2 hx => ?_⟩);by_cases e:q=i
      ·subst e
       cases k9.symm.trans hx;rw[je];exact hz.1 mq
      ·exact i3 q x h1 (by omega) hx
     ·clear ih ch
      have qu:rc≠0:=λ e=>mq (hz.2 e)
      (repeat' ((first|(apply AG<;>intro hc<;>try omega)|(apply AU;omega)|(refine EK ?_ (λ r hr => ?_);omega)|apply AC)<;>conv=>whnf))
      cases k9.symm.trans hr;refine AU (by rw[List.length_map];omega) ?_;(conv=>whnf)
      (repeat' ((first|(refine DQ ?_ (λ_=>rfl) (λ v hv => ?_);omega)|refine EV (by assumption) ?_)<;>conv=>whnf))
      cases cr.symm.trans hv;(repeat' ((first|(apply AG<;>intro hc<;>try omega)|(apply AU;omega)|(refine EK ?_ (λ r hr => ?_);omega)|refine EV (by assumption) ?_|refine AE (qh) ?_)<;>conv=>whnf))
      ·obtain ⟨t,ti⟩ : ∃ t,m[P.length]? = some t:=⟨_,zE (by omega)⟩
       refine AU ⟨rfl,by simp only[A8,List.length_map];omega⟩ ?_;(conv=>whnf)
       (repeat' ((first|(apply AU;omega)|refine EV (by assumption) ?_)<;>conv=>whnf))
       rw[show 0+((i:Nat):Int).toNat=i by omega,show 0+((P.length:Nat):Int).toNat=P.length by omega];refine AU ⟨rfl,by simp only[A8,List.length_map,List.length_set,List.length_range];omega,aL (by simp only[A8,List.length_map];omega)⟩ ?_;(conv=>whnf)
       skip
       have Fe:=hE.swap k9 ti i1 (Nat.le_refl _) (by omega);have Fj:c<n -> ∃ Bk,((m.set i t).set P.length rp)[P.length]? = some Bk/\Bk.getD c 0≠0:=λ_=>⟨rp,by rw[List.getElem?_set,if_pos rfl,if_pos (by rw[List.length_set];omega)],by rw[je];exact qu⟩
       generalize Pv:(!odd)=ob at *;cases ob;all_goals
        (conv=>whnf)
        skip
        refine NW.go ?_;refine WS (k:=231016) (i:=i) (j:=P.length) rfl (I9 k9) (I9 ti) rfl rfl ?_;rw[fU];exact BL [] (by (conv=>whnf);exact ⟨rfl,rfl,rfl⟩) (ea _ c _ ⟨Fe,Fj⟩)
      ·have ei:i=P.length:=by omega
       exact NW.go (BL [] (by (conv=>whnf);exact ⟨rfl,rfl,rfl⟩) (ea m c odd ⟨hE,λ_=>⟨rp,by rw[<-ei];exact k9,by rw[je];exact qu⟩⟩))
    ·have ei:i=n:=by omega
     clear ih;(repeat' ((first|(apply AG<;>intro hc<;>try omega)|(apply A0;omega)|apply AC)<;>conv=>whnf))
     exact BR [] (ch (c+1) (by omega) (hE.skip ft λ q x h1 hx=>i3 q x h1 (by have:=(zS hx).1;omega) hx))
   ·clear ch
    (repeat' ((first|(apply AG<;>intro hc<;>try omega)|apply AC)<;>conv=>whnf))
    exact NW.go (BL [] (by (conv=>whnf);exact ⟨rfl,rfl,rfl⟩) (ea m c odd ⟨hE,λ h=>absurd h ft⟩))
 ·clear eh
  (repeat' ((first|(apply AG<;>intro hc<;>try omega)|apply AC)<;>conv=>whnf))
  refine ⟨rfl,?_⟩;(conv=>whnf)
  (repeat' ((first|(apply AG<;>intro hc<;>try omega)|fail)<;>conv=>whnf))
  have z9:n<=c\/n<=P.length:=Or.inr (by omega);have te:=YD (w:=0) hE jx ew z8 ah z9;have oz:P.length=n:=by have:=hE.o5.le;have:=hE.o5.pl;omega
  have ic:=te.1 oz;have da:=hE.l0;have hlb:Bt 1000000000000 l:=hE.bl.le (JX hB (by omega));have Gc : ∀ (u:Rat) (D:List (List Rat)->Rat),EQ n n u D->u*l=KZ odd*(D a*KV (a.map AZ)):=λ u D hD=>by
   rw[<-Le u D hD];exact hE.vy db oz hD
  clear Le;have Anc:(a.map AZ).length=n:=by rw[List.length_map];exact ah
  have My : ∀ x∈a.map AZ,x≠0/\Bt K0 x:=λ x hx=>by
   obtain ⟨r,hr,rfl⟩:=List.mem_map.1 hx;exact ⟨V9 r,Mx r hr⟩
  have hnK:n*K0<=1000000000000:=Nat.le_trans (zR K0 (Nat.le_of_lt (Nat.lt_pow_self (by omega)))) hB;generalize a.map AZ=sc at *;clear hE bb tu;skip
  refine GW (λ i _=>n-i) (λ(i:Nat) (x:Rat)=>i<=n/\x≠0/\Bt (1000000000000+i*K0) x/\x*KV (sc.take i)=l) (λ i _=>[(43,.int .i64 i)]) (λ_ x=>[(8,8,.bx (eQ x))]) 0 l ⟨by omega,da,by simpa using hlb,Rat.mul_one l⟩ ?_;intro i x ⟨p1,p2,p3,p4⟩ ih;have hiK:i*K0<=n*K0:=zR K0 p1;by_cases hi:i<n
  ·obtain ⟨s,hs⟩ : ∃ s,sc[i]? = some s:=⟨_,zE (by omega)⟩
   have qz:=My s (zM hs);have AlM:K0<=1000000000000:=Nat.le_trans (Nat.le_mul_of_pos_left K0 (by omega)) hnK;have hD:=Q9 N.toa8 p3 qz.2 (by omega) (by omega) qz.1;have hx2:x/s≠0:=by
    intro e;have:=Rat.div_mul_cancel qz.1 (a:=x)
    rw[e,Rat.zero_mul]at this;exact p2 this.symm
   (repeat' ((first|(apply AG<;>intro hc<;>try omega)|(apply AU;omega)|(refine DQ ?_ (λ_=>rfl) (λ v hv => ?_);omega)|apply AC)<;>conv=>whnf))
   cases hs.symm.trans hv;(repeat' ((first|(apply A0;omega)|refine AE (hD) ?_)<;>conv=>whnf))
   exact BR [] (ih (i+1) (x/s) (by omega) ⟨by omega,hx2,(p3.vz qz.2).le (by rw[Nat.succ_mul];omega),by
    rw[sZ hs,<-p4,Rat.mul_comm (KV _) s,<-Rat.mul_assoc,Rat.div_mul_cancel qz.1]⟩)
  ·clear ih
   rw[zT (by omega)]at p4;have hN:=Adh N.tomg p3 (by omega);cases odd
   ·(repeat' ((first|(apply AG<;>intro hc<;>try omega)|apply AC)<;>conv=>whnf))
    refine ⟨.g9 [.agg (eQ x),.int .i64 0],?_,x,rfl,p3.le (by omega),⟨λ_=>ic,λ_=>p2⟩,λ u D hD=>Y2 uz (by
     have h1:=Gc u D hD;rw[<-p4,show KZ false=1 from rfl]at h1;grind)⟩
    (conv=>whnf)
    exact AY rfl (UV x)
   ·(repeat' ((first|(apply AG<;>intro hc<;>try omega)|apply AC|refine AE (hN) ?_)<;>conv=>whnf))
    refine ⟨.g9 [.agg (eQ (-x)),.int .i64 0],?_,-x,rfl,p3.Ad.le (by omega),⟨λ_=>ic,λ_ h=>p2 (by rw[<-Rat.neg_neg x,h];rfl)⟩,λ u D hD=>Y2 uz (by
     have h1:=Gc u D hD;rw[<-p4,show KZ true = -1 from rfl]at h1;grind)⟩
    (conv=>whnf)
    exact AY rfl (UV (-x))
theorem Xl (N:e8 L) (q q':Bool) (a:List (List Rat)) (n k:Nat) (ah:a.length=n) (z8 : ∀ r∈a,r.length=n) (hn:1<=n/\n<=52) (hk:1<=k) (bj:Ms k a) (hB:6^n*(3^n*k)<=1000000000000) :
  ∃ d:Rat,Ev L 236 [.sl q (LE q' a)] (.g9 [.agg (eQ d),.int .i64 0])/\Bt 2000000000000 d/\(d≠0↔NS n a) /\ ∀ (u:Rat) (D:List (List Rat)->Rat),EQ n n u D->D a=u*d:=by
 have ga:k<2199023255552:=by
  have h1:3^n*k<=6^n*(3^n*k):=Nat.le_mul_of_pos_left _ (Nat.pow_pos (by omega));have h2:k<=3^n*k:=Nat.le_mul_of_pos_left _ (Nat.pow_pos (by omega));omega
 have:=nO N q q' (wM a) n k (PC ah) (PD z8) hn hk (CD.of bj ga) hB
 rw[OT,K4]at this;exact this
theorem Ro (w:AQ):CJ (eW w):=by
 simp only[eW,rQ,CJ,A7,and_true,true_and];exact ⟨CS _,CS _⟩
theorem kZ : ∀ l:List AQ,GL (l.map eW)
 | []=>trivial
 | w::l=>⟨Ro w,kZ l⟩
def EC (a b:List (List AQ)):List (List AQ):=List.zipWith (· ++ ·) a b
theorem eC {a b:List (List AQ)} {i:Nat} {r s:List AQ} (hr:a[i]? = some r) (hs:b[i]? = some s):(EC a b)[i]? = some (r++s):=by
 rw[EC,List.getElem?_zipWith,hr,hs]
theorem iQ : ∀ a b:List (List AQ),vM (EC a b)=DI (vM a) (vM b)
 | [],_=>by simp [EC,DI,vM]
 | _::_,[]=>by simp [EC,DI,vM]
 | r::a,s::b=>by
  have:=iQ a b
  simp only[EC,DI,vM,List.zipWith_cons_cons,List.map_cons,List.map_append]at this ⊢;rw[this]
theorem qK {a b:List (List AQ)} {n:Nat} (h:a.length=n) (g:b.length=n):(EC a b).length=n:=by simp [EC,h,g]
theorem qJ {a b:List (List AQ)} {n w k:Nat} (z8 : ∀ r∈a,r.length=n) (mj : ∀ r∈b,r.length=w) (bj:CD k a) (ij:CD k b):(∀ r∈EC a b,r.length=n+w)/\CD k (EC a b):=by
 have key : ∀ r∈EC a b,∃ x∈a,∃ y∈b,r=x++y:=λ r hr=>by
  obtain ⟨i,hi⟩:=List.getElem?_of_mem hr;have au:=(zS hi).1;simp only[EC,List.length_zipWith]at au;obtain ⟨x,hx⟩ : ∃ x,a[i]? = some x:=⟨_,zE (by omega)⟩;obtain ⟨y,hy⟩ : ∃ y,b[i]? = some y:=⟨_,zE (by omega)⟩;obtain rfl:=Option.some.inj ((eC hx hy).symm.trans hi);exact ⟨x,zM hx,y,zM hy,rfl⟩
 constructor
 ·intro r hr
  obtain ⟨x,hx,y,hy,rfl⟩:=key r hr;rw[List.length_append,z8 x hx,mj y hy]
 ·intro r hr z hz
  obtain ⟨x,hx,y,hy,rfl⟩:=key r hr;rcases List.mem_append.1 hz with hz|hz
  ·exact bj x hx z hz
  ·exact ij y hy z hz
def cS:Option (List AQ)->List AV
 | none=>[.nil]
 | some r=>[.sl false (r.map eW)]
theorem Zo {n:Nat} {l:List (List AQ)} (h:l.length=n):(fz none (l.map some) n).map cS=BO false l:=by
 rw[dQ (by simpa using h),List.map_map];rfl
def nJ (p:Bool × List AQ):List AV:=[.sl p.1 (p.2.map eW)]
def G2 (P:List (Bool × List AQ)) (i:Nat):List AQ:=((P.take i).map Prod.snd).flatten
theorem pI {P:List (Bool × List AQ)} {i:Nat} {p:Bool × List AQ} (h:P[i]? = some p):G2 P (i+1)=G2 P i++p.2:=by
 simp only[G2,List.take_add_one,h,Option.toList_some,List.map_append,List.map_cons,List.map_nil,List.flatten_append,List.flatten_cons,List.flatten_nil,List.append_nil]
theorem Xj (N:e8 L) (q:Bool) (P:List (Bool × List AQ)) (n:Nat) (hn:P.length=n) (Iz:n<=100) (hB : ∀ i,(G2 P i).length<=2000) (h0:0<(G2 P n).length):Ev L 228 [.sl q (P.map nJ)] (.sl false ((G2 P n).map eW)):=by
 refine Ev.x N.NR rfl rfl ?_;(repeat' ((first|apply AW|apply AC)<;>conv=>whnf))
 refine DT (λ i=>n-i) (λ(i:Nat)=>i<=n) (λ i=>[(11,.int .i64 i),(3,.int .i64 (G2 P i).length)]) (λ_=>[]) 0 (by omega) ?_;intro i p1 ih;by_cases hi:i<n
 ·obtain ⟨p,hp⟩ : ∃ p,P[i]? = some p:=⟨_,zE (by omega)⟩
  have Gx:P[(i:Int).toNat]? = some p:=hp;have hs:=pI hp;have hb:=hB i;have qi:=hB (i+1);have hl:(G2 P (i+1)).length=(G2 P i).length+p.2.length:=by rw[hs,List.length_append]
  (repeat' ((first|(apply AG<;>intro hc<;>try omega)|(apply A0;omega)|apply AW|(refine BD (by assumption) ?_ rfl ?_;omega)|apply AC)<;>conv=>whnf))
  rw[show ((G2 P i).length:Int)+(p.2.length:Int)=((G2 P (i+1)).length:Nat) by rw[hl];omega];exact BR [] (ih (i+1) (by omega) (by omega))
 ·obtain rfl:i=n:=by omega
  clear ih;have hb:=hB i;(repeat' ((first|(apply AG<;>intro hc<;>try omega)|apply AC)<;>conv=>whnf))
  refine E2 1000 N.NT rfl rfl ?_;(repeat' ((first|(apply AG<;>intro hc<;>try omega)|(apply AU;omega)|(apply CE;omega)|apply AC)<;>conv=>whnf))
  refine AU ⟨by omega,by simp only[D5];omega,by omega⟩ ?_;(conv=>whnf)
  refine jC ⟨by omega,by omega⟩ ?_;(conv=>whnf)
  skip
  refine ⟨rfl,_,rfl,?_⟩;(conv=>whnf)
  (repeat' (apply AW<;>conv=>whnf))
  refine DT (λ j=>i-j) (λ(j:Nat)=>j<=i) (λ j=>[(27,.int .i64 j),(6,.row 227022 0 3 0 (G2 P j).length)]) (λ j=>[(227022,227022,.rw 3 ((G2 P j).map eW))]) 0 (by omega) ?_;intro j p2 jh;by_cases hj:j<i
  ·obtain ⟨p,hp⟩ : ∃ p,P[j]? = some p:=⟨_,zE (by omega)⟩
   have Gx:P[(j:Int).toNat]? = some p:=hp;have hs:=pI hp;have hb:=hB j;have qi:=hB (j+1);have hl:(G2 P (j+1)).length=(G2 P j).length+p.2.length:=by rw[hs,List.length_append]
   (repeat' ((first|(apply AG<;>intro hc<;>try omega)|(refine BD (by assumption) ?_ rfl ?_;omega)|apply AC)<;>conv=>whnf))
   refine WT rfl (λ_=>rfl) (by omega) (by omega) ?_;rw[<-hs];(conv=>whnf)
   (repeat' ((first|(apply A0;omega)|fail)<;>conv=>whnf))
   exact BR [(227022,33)] (jh (j+1) (by omega) (by omega))
  ·obtain rfl:j=i:=by omega
   clear jh;(repeat' ((first|(apply AG<;>intro hc<;>try omega)|(refine GC (λ_=>rfl) rfl ?_ ?_;(first|rfl|simp))|apply AC)<;>conv=>whnf))
   exact AY rfl (by simp only[A7,true_and];exact kZ _)
theorem Xk (N:e8 L) (q q1 q2:Bool) (a b:List AQ) (ha:a.length<=1000) (hb:b.length<=1000) (h0:0<a.length):Ev L 228 [.sl q [[.sl q1 (a.map eW)],[.sl q2 (b.map eW)]]] (.sl false ((a++b).map eW)):=by
 have:=Xj N q [(q1,a),(q2,b)] 2 rfl (by omega) (λ i=>by
  rcases i with _|_|_|i<;>simp [G2]<;>omega) (by simp [G2];omega)
 simpa [G2,nJ] using this
def JW (y:Nat->List Rat) (n w:Nat):List (List Rat):=(List.range n).map λ i:Nat=>(List.range w).map λ c=>(y c).getD i 0
theorem uY {m0 m:List (List Rat)} {K n W c:Nat} {P:List Nat} {odd:Bool} {l:Rat} (hE:EN m0 K W n m P c odd l) (hP:P.length=n) (bb:m.length=n):QW (CX m) n:=by
 have hc:c=n:=by have:=hE.o5.le;have:=hE.cc;omega
 subst hc;exact hE.o5.Hz λ i hi=>by
  obtain ⟨q,hq⟩ : ∃ q,P[i]? = some q:=⟨_,zE (by omega)⟩;rw[hq,hE.o5.diag hP i q hq]
theorem Aha {m0 m a b:List (List Rat)} {K n w c:Nat} {P:List Nat} {odd:Bool} {l:Rat} (hE:EN m0 K (n+w) n m P c odd l) (hs:QU m0 (DI a b)) (hl:a.length=b.length) (z8 : ∀ r∈a,r.length=n) (mj : ∀ r∈b,r.length=w) (hP:P.length=n) (bb:m.length=n) :
  ∀ c',c'<w -> ∀ (i:Nat) (r s:List Rat),a[i]? = some r->b[i]? = some s->A5 r ((EW (n+c') l m 0).map (· / l))=s.getD c' 0:=by
 intro c' x7 i r s hr qy;have ht:=uY hE hP bb;have hlen:=hE.o5.lr;refine lP (λ X=>(hE.kz X).trans (hs.kz X)) hl z8 mj x7 (by rw[List.length_map,OQ];exact bb) hlen (λ x hx => ?_) hr qy;have h1:=Su (c:=n+c') (l:=l) (λ r hr=>by rw[hlen r hr];omega) bb ht x hx;have uf:((EW (n+c') l m 0).map (· * l⁻¹)).length=n:=by rw[List.length_map,OQ];exact bb
 rw[show ((EW (n+c') l m 0).map (· / l))=(EW (n+c') l m 0).map (· * l⁻¹) from List.map_congr_left λ z _=>Rat.div_def z l,KJ,<-U5 uf,List.take_take,Nat.min_self,U5 uf,Q4,KJ,h1,Rat.mul_assoc,Rat.mul_inv_cancel _ hE.l0,Rat.mul_one]
theorem Ahc (N:e8 L) (q q1 q2 q3:Bool) (a0 b0:List (List AQ)) (a:List (List AQ)) (n WW k:Nat) {K:Nat} (ah:a.length=n) (z8 : ∀ r∈a,r.length=WW) (hn:1<=n/\n<=52) (hW:WW<=104) (bj:CD k a) (eo : ∀ r∈vM a,∀ j,Bt K (AZ (r.take j))) (wz:k<=K) (ur:K<=1000000000000) {kk:List It} {Q:Tm->Mem->Prop}
  (ae:AA L kk ([(5,.row 231019 0 3 0 n),(4,.row 231016 0 1 0 n)]++[(1000+43,.row 22 0 1 0 n),(1000+26,.bool false),(1000+25,.int .i64 n),(1000+24,.int .i64 n),(1000+7,.row 22 0 1 0 n),(1000+6,.int .i64 n),(1000+0,.sl q (BO q1 a0)),(1000+(0+1),.sl q2 (BO q3 b0))]) ([(231016,231016,.mx (A8 3 eQ (whole (vM a)))),(231019,231019,.rw 3 (((vM a).map AZ).map eQ))]++[(22,22,.rw 1 (BO false a))]) Q) :
  AA L (.lp FK.l1 :: .g8 0::kk) ([(22,.int .i64 0),(21,.int .i64 n),(20,.row 22 0 1 0 n),(5,.row 231019 0 3 0 n),(4,.row 231016 0 1 0 n)]++[(1000+43,.row 22 0 1 0 n),(1000+26,.bool false),(1000+25,.int .i64 n),(1000+24,.int .i64 n),(1000+7,.row 22 0 1 0 n),(1000+6,.int .i64 n),(1000+0,.sl q (BO q1 a0)),(1000+(0+1),.sl q2 (BO q3 b0))]) ([(231016,231016,.mx (List.replicate n none)),(231019,231019,.rw 3 ((List.replicate n none).map eO))]++[(22,22,.rw 1 (BO false a))]) Q:=by
 have hI:=KM N.toa8 1 (by omega);refine KB (l:=[_,_]) rfl ?_;refine D0 (λ i=>n-i) (λ(i:Nat)=>i<=n) (λ i=>[(22,.int .i64 i)]) (λ i=>[(231016,231016,.mx (mz (whole (vM a)) n i)),(231019,231019,.rw 3 ((DG (((vM a).map AZ).take i) n).map eO))]) [] [] 0 (by first|exact (by (conv=>whnf);exact ⟨rfl,rfl,rfl⟩)|(rw[<-P5 (whole (vM a)),List.take_zero,<-I7];exact (by (conv=>whnf);exact ⟨rfl,rfl,rfl⟩))) (by omega) ?_;intro i p1 ih;have Dh:=P3 (Q:=whole (vM a)) p1;by_cases hi:i<n
 ·obtain ⟨r,hr⟩ : ∃ r,a[i]? = some r:=⟨_,zE (by omega)⟩
  have mn:a[(i:Int).toNat]? = some r:=hr;have cn:=z8 r (zM hr);have fe:=bj r (zM hr);obtain ⟨rv,kv⟩ : ∃ rv,r.map AQ.v=rv:=⟨_,rfl⟩;have rh:(vM a)[i]? = some rv:=by rw[<-kv,vM,List.getElem?_map,hr];rfl
  have qw:rv.length=WW:=by rw[<-kv,List.length_map];exact cn
  have v8 : ∀ (j:Nat) (x:AQ),r[j]? = some x->rv[j]? = some x.v:=λ j x hx=>by rw[<-kv,List.getElem?_map,hx];rfl
  have m4:=P4 (Q:=whole (vM a)) (i:=i) (n:=n) (row:=rv.map (· * AZ rv)) (by rw[whole,List.getElem?_map,rh];rfl) hi;have mo:((vM a).map AZ)[i]? = some (AZ rv):=by rw[List.getElem?_map,rh];rfl
  generalize mz (whole (vM a)) n i=R0 at *;have tf : ∀ j,Bt K (AZ (rv.take j)):=eo rv (zM rh);have gq:=tf WW;rw[zT (by omega)]at gq;(repeat' ((first|(apply AG<;>intro hc<;>try omega)|(apply AU;omega)|apply AW|(refine DQ ?_ (λ_=>rfl) (λ v hv => ?_);omega)|apply AC|refine AE (hI) ?_)<;>conv=>whnf))
  try cases hr.symm.trans hv
  refine GW (λ j _=>WW-j) (λ(j:Nat) (s:Rat)=>j<=WW/\s=AZ (rv.take j)) (λ j _=>[(30,.int .i64 j)]) (λ_ s=>[(231008,231008,.bx (eQ s))]) 0 ((1:Int):Rat) ⟨by omega,by rw[List.take_zero];rfl⟩ ?_;intro j s ⟨p2,p3⟩ jh;by_cases hj:j<WW
  ·obtain ⟨x,hx⟩ : ∃ x,r[j]? = some x:=⟨_,zE (by omega)⟩
   have mw:r[(j:Int).toNat]? = some x:=hx;have mr:Bt K s:=by rw[p3];exact tf j
   have sx:=fe x (zM hx);have bx:=sx.1;have ck:=YH N.toa8 mr sx.2 (by omega) (Nat.le_refl _);have fi:=VC N.toa8 true mr (mr.mul bx).2 (by omega) (by omega);have uy:AZ (rv.take (j+1))=s*(((s*x.v).den:Nat):Rat):=by rw[G7 (v8 j x hx),WA,<-p3];rfl
   (repeat' ((first|(apply AG<;>intro hc<;>try omega)|(apply A0;omega)|(refine BD (by assumption) ?_ rfl ?_;omega)|refine HN rfl ?_|apply AC|refine AE (ck) ?_|refine AE (fi) ?_)<;>conv=>whnf))
   exact BL [] (by (conv=>whnf);exact ⟨rfl,rfl,rfl⟩) (jh (j+1) _ (by omega) ⟨by omega,uy.symm⟩)
  have ej:j=WW:=by omega
  clear jh;rw[zT (by omega)]at p3;subst p3;(repeat' ((first|(apply AG<;>intro hc<;>try omega)|apply AW|apply AC)<;>conv=>whnf))
  rw[cn];refine ER (enc:=eO) none WW rfl (by omega) (by omega) ?_;(conv=>whnf)
  (repeat' ((first|(apply AU;omega)|fail)<;>conv=>whnf))
  refine AU (by simp) ?_;refine K5 (i:=i) (by omega) (by omega) ?_;(conv=>whnf)
  (repeat' (apply AW<;>conv=>whnf))
  refine D0 (λ j=>WW-j) (λ(j:Nat)=>j<=WW) (λ j=>[(53,.int .i64 j)]) (λ j=>[(231016,231016,.mx (R0.set i (some (3,(DG ((rv.map (· * AZ rv)).take j) WW).map eO))))]) [] [] 0 (by first|exact (by (conv=>whnf);exact ⟨rfl,rfl,rfl⟩)|(rw[List.take_zero,<-I7];exact (by (conv=>whnf);exact ⟨rfl,rfl,rfl⟩))) (by omega) ?_;intro j r2 jh;have ka:((rv.map (· * AZ rv)).take j).length=j:=by rw[List.length_take,List.length_map];omega
  have Ax:=H6 (l:=(rv.map (· * AZ rv)).take j) (m:=WW) (by omega);by_cases hj:j<WW
  ·obtain ⟨x,hx⟩ : ∃ x,r[j]? = some x:=⟨_,zE (by omega)⟩
   have mw:r[(j:Int).toNat]? = some x:=hx;have sx:=fe x (zM hx);have ck:=YG N.toa8 sx.2 gq (Nat.le_refl _) (by omega);have hs:=I8 (l:=(rv.map (· * AZ rv)).take j) (m:=WW) (x:=x.v*AZ rv) (by omega);rw[ka,<-G7 (show (rv.map (· * AZ rv))[j]? = some (x.v*AZ rv) by rw[List.getElem?_map,v8 j x hx];rfl)]at hs;generalize DG ((rv.map (· * AZ rv)).take j) WW=W0 at *;(repeat' ((first|(apply AG<;>intro hc<;>try omega)|(apply AU;omega)|(refine BD (by assumption) ?_ rfl ?_;omega)|apply AC)<;>conv=>whnf))
   refine I2 (by omega) (by omega) ?_;(conv=>whnf)
   (repeat' (refine AE (ck) ?_<;>conv=>whnf))
   refine AU (by rw[List.length_map];omega) ?_;(conv=>whnf)
   skip
   refine GM (by omega) (by omega) ?_;(conv=>whnf)
   refine FJ (enc:=eO) (some (x.v*AZ rv)) rfl (λ e=>by cases e<;>rfl) (by omega) ?_;(conv=>whnf)
   rw[hs];refine KF (by omega) (by rw[List.length_map,List.length_map,<-hs,List.length_set]) ?_;(conv=>whnf)
   (repeat' ((first|(apply A0;omega)|fail)<;>conv=>whnf))
   exact BR [] (jh (j+1) (by omega) (by omega))
  have ej:j=WW:=by omega
  clear jh;rw[zT (by rw[List.length_map];omega),I6 (by rw[List.length_map];exact qw),m4];have mb:(((vM a).map AZ).take i).length=i:=by rw[List.length_take,List.length_map,vM,List.length_map];omega
  have Ir:=H6 (l:=((vM a).map AZ).take i) (m:=n) (by omega);have jc:=I8 (l:=((vM a).map AZ).take i) (m:=n) (x:=AZ rv) (by omega);rw[mb,<-G7 mo]at jc;generalize DG (((vM a).map AZ).take i) n=W1 at *;(repeat' ((first|(apply AG<;>intro hc<;>try omega)|(apply AU;omega)|apply AC)<;>conv=>whnf))
  refine FJ (enc:=eO) (some (AZ rv)) rfl (λ e=>by cases e<;>rfl) (by omega) ?_;(conv=>whnf)
  rw[jc];(repeat' ((first|(apply A0;omega)|fail)<;>conv=>whnf))
  exact BR [] (ih (i+1) (by omega) (by omega))
 have ei:i=n:=by omega
 clear ih;rw[ei,P2 (by simp [whole,vM,ah]),zT (by rw[List.length_map,vM,List.length_map];omega),I6 (by rw[List.length_map,vM,List.length_map];exact ah)];(repeat' ((first|(apply AG<;>intro hc<;>try omega)|apply AC)<;>conv=>whnf))
 exact BL [] (by (conv=>whnf);exact ⟨rfl,rfl,rfl⟩) ae
theorem Ahb (N:e8 L) (q2 q3:Bool) (b0 jm:List (List AQ)) {m0 m1:List (List Rat)} {n cw WW K0 c:Nat} {P:List Nat} {o:Bool} {l:Rat} {rp:List Rat} (sc:List Rat) (db:m0.length=n) (hn:1<=n/\n<=52) (hW:cw<=WW) (ta:WW<=104) (nb:1<=K0) (hB:6^n*K0<=1000000000000) (hP:P.length<n) (ft:c<cw) (hS:HX m0 K0 WW cw P c o l rp m1 (P.length+1)) {kk:List It} {Q:Tm->Mem->Prop}
  (ae : ∀ m2,HX m0 K0 WW cw P c o l rp m2 n->AA L kk ([(9,.bool o),(8,.int .i64 c),(7,.int .i64 (P.length:Nat)),(10,.ptr 233010 0 0 0),(5,.ptr 233005 0 0 0),(0,.row 231016 0 1 0 n),(0+1,.int .i64 cw)]++[(1000+49,.int .i64 n),(1000+48,.row 231016 0 1 0 n),(1000+9,.row 231016 0 1 0 n),(1000+6,.int .i64 n),(1000+(0+1),.sl q2 (BO q3 b0))]) ([(231016,231016,.mx (A8 3 eQ m2)),(233010,233010,.bx (eQ l)),(233005,233005,.bx [.bool false,.nil,.nil])]++[(22,22,.rw 1 (BO false jm)),(231019,231019,.rw 3 (sc.map eQ))]) Q) :
  AA L (.lp G3.l4 :: .g8 6::kk) ([(12,.int .i64 ((P.length+1:Nat):Int)),(9,.bool o),(8,.int .i64 c),(7,.int .i64 (P.length:Nat)),(10,.ptr 233010 0 0 0),(5,.ptr 233005 0 0 0),(0,.row 231016 0 1 0 n),(0+1,.int .i64 cw)]++[(1000+49,.int .i64 n),(1000+48,.row 231016 0 1 0 n),(1000+9,.row 231016 0 1 0 n),(1000+6,.int .i64 n),(1000+(0+1),.sl q2 (BO q3 b0))]) ([(231016,231016,.mx (A8 3 eQ m1)),(233010,233010,.bx (eQ l)),(233005,233005,.bx [.bool false,.nil,.nil])]++[(22,22,.rw 1 (BO false jm)),(231019,231019,.rw 3 (sc.map eQ))]) Q:=by
 refine KB (l:=[_,_]) rfl ?_;refine GW (λ_ i=>n-i) (λ(m:List (List Rat)) (i:Nat)=>HX m0 K0 WW cw P c o l rp m i/\P.length+1<=i/\i<=n) (λ_ i=>[(12,.int .i64 i)]) (λ m _=>[(231016,231016,.mx (A8 3 eQ m))]) m1 (P.length+1) ⟨hS,by omega,by omega⟩ ?_;clear hS;intro m2 i ⟨hS,j1,j2⟩ sh;have kp:=hS.len;rw[db]at kp;by_cases hj:i<n
 ·obtain ⟨rq,eg⟩ : ∃ r,m2[i]? = some r:=⟨_,zE (by omega)⟩
  have br:=hS.ht;have oh:=hS.o5.lr rq (zM eg);have ct:=hS.o5.lr rp (zM br);(repeat' ((first|(apply AG<;>intro hc<;>try omega)|(apply AU;omega)|(refine EK ?_ (λ r hr => ?_);omega)|apply AC)<;>conv=>whnf))
  rename_i rA Ha;cases eg.symm.trans Ha;cases br.symm.trans hr;rw[show 0+((i:Nat):Int).toNat=i by omega,show 0+((P.length:Nat):Int).toNat=P.length by omega,show (List.map eQ rq).length=WW by rw[List.length_map];exact oh,show (List.map eQ rp).length=WW by rw[List.length_map];exact ct];have gm:rq[c]? = some (rq.getD c 0):=GH (by omega);refine E2 1000 N.IA rfl rfl ?_;have eb:rp[c]? = some (rp.getD c 0):=GH (by omega);have xj:=hS.step (by omega) eg;have u9:(comb (rp.getD c 0) (rq.getD c 0) l rq rp).length=WW:=by rw[U0 (by omega)];exact oh
  have Fx:=λ j=>UZ (p:=rp.getD c 0) (f:=rq.getD c 0) (l:=l) (r:=rq) (t:=rp) (by omega) j
  have gb:=λ j (h:j<c)=>hS.o5.zr i rq (by omega) eg j h
  have tj:=λ j (h:j<c)=>hS.o5.zr P.length rp (Nat.le_refl _) br j h
  have Aq:=hS.hi i rq (Nat.le_refl i) eg;have Ap:=hS.bt;have gy:=hS.bl;have da:=hS.l0;have js:=Ap.at eb;have jt:=Aq.at gm;generalize pj:rp.getD c 0=pv at *;generalize Pj:rq.getD c 0=fv at *;generalize lk:comb pv fv l rq rp=cb at *;have og:cb.take c++rq.drop c=rq:=fI (by omega) λ j hj=>⟨by rw[Fx,gb j hj,tj j hj,Rat.zero_mul,Rat.zero_mul,Rat.sub_eq_add_neg,Rat.neg_zero,Rat.add_zero,Rat.div_def,Rat.zero_mul],gb j hj⟩
  have qg:=I9 (z:=3) eg;have Am:=I9 (z:=3) br;have Fh:(A8 3 eQ m2).length=n:=by simp only[A8,List.length_map];omega
  have yh:(A8 3 eQ m2).set i (some (3,cb.map eQ))=A8 3 eQ (m2.set i cb):=by simp only[A8,List.map_set]
  generalize A8 3 eQ m2=R2 at *;have pc:R2.set i (some (3,rq.map eQ))=R2:=R3 qg;(repeat' ((first|(apply AU;omega)|apply AC)<;>conv=>whnf))
  refine KE Am ?_;(conv=>whnf)
  (repeat' ((first|(apply AU;omega)|(refine DQ ?_ (λ_=>rfl) (λ v hv => ?_);omega))<;>conv=>whnf))
  cases eb.symm.trans hv;skip
  refine KE qg ?_;(conv=>whnf)
  (repeat' ((first|(refine DQ ?_ (λ_=>rfl) (λ v hv => ?_);omega)|fail)<;>conv=>whnf))
  cases gm.symm.trans hv;skip
  have Py:=Nat.le_trans (ZL nb P.length) (JX hB (show P.length+1<=n by omega));generalize 6^P.length*K0=BB at *;refine D0 (λ j=>WW-j) (λ(j:Nat)=>c<=j/\j<=WW) (λ j=>[(10,.int .i64 j)]) (λ j=>[(231016,231016,.mx (R2.set i (some (3,(cb.take j++rq.drop j).map eQ))))]) [] [] c (by first|exact (by (conv=>whnf);exact ⟨rfl,rfl,rfl⟩)|(rw[og,pc];exact (by (conv=>whnf);exact ⟨rfl,rfl,rfl⟩))) ⟨by omega,by omega⟩ ?_;intro j ⟨k1,k2⟩ jh;have bb:(cb.take j++rq.drop j).length=WW:=by rw[List.length_append,List.length_take,List.length_drop];omega
  by_cases Po:j<WW
  ·obtain ⟨x,hx⟩ : ∃ x,rq[j]? = some x:=⟨_,zE (by omega)⟩
   obtain ⟨y,hy⟩ : ∃ y,rp[j]? = some y:=⟨_,zE (by omega)⟩;have uv:cb[j]? = some ((x*pv-y*fv)/l):=by rw[<-lk];exact X0 hx hy
   have zi:=fG (a:=cb) (by omega) hx;have fc:=fH (b:=rq) (by omega) uv;have bx:=Aq.at hx;have si:=Ap.at hy
   have ck:=KL N.toa8 bx js (by omega) (by omega);have fi:=KL N.toa8 si jt (by omega) (by omega)
   have yx:=YL N.toaz (bx.mul js) (si.mul jt) (by omega) (by omega);have Ai:=Q9 N.toa8 ((bx.mul js).rz (si.mul jt)) gy (by omega) (by omega) da;have wk:(R2.set i (some (3,(cb.take j++rq.drop j).map eQ)))[P.length]? = some (some (3,rp.map eQ)):=by rw[List.getElem?_set,if_neg (by omega)];exact Am
   generalize cb.take j++rq.drop j=cm at *;(repeat' ((first|(apply AG<;>intro hc<;>try omega)|(apply AU;omega)|apply AC)<;>conv=>whnf))
   refine GM rfl (by omega) ?_;(conv=>whnf)
   (repeat' ((first|(refine DQ ?_ (λ_=>rfl) (λ v hv => ?_);omega)|fail)<;>conv=>whnf))
   cases zi.symm.trans hv;(repeat' ((first|(apply AU;omega)|refine AE (ck) ?_)<;>conv=>whnf))
   refine KE wk ?_;(conv=>whnf)
   (repeat' ((first|(refine DQ ?_ (λ_=>rfl) (λ v hv => ?_);omega)|fail)<;>conv=>whnf))
   cases hy.symm.trans hv;(repeat' ((first|refine AE (fi) ?_|refine AE (yx) ?_)<;>conv=>whnf))
   (repeat' ((first|(apply AU;omega)|refine AE (Ai) ?_)<;>conv=>whnf))
   refine GM rfl (by omega) ?_;(conv=>whnf)
   refine FJ (enc:=eQ) ((x*pv-y*fv)/l) rfl (λ_=>rfl) (by omega) ?_;rw[fc];(conv=>whnf)
   refine KF rfl (by rw[List.length_map,List.length_map,<-fc,List.length_set]) ?_;(conv=>whnf)
   (repeat' ((first|(apply A0;omega)|fail)<;>conv=>whnf))
   exact BR [] (jh (j+1) (by omega) ⟨by omega,by omega⟩)
  ·have ej:j=WW:=by omega
   clear jh;rw[zT (by omega),List.drop_of_length_le (by omega),List.append_nil,yh];(repeat' ((first|(apply AG<;>intro hc<;>try omega)|apply AC)<;>conv=>whnf))
   refine ⟨rfl,_,rfl,?_⟩;(conv=>whnf)
   (repeat' ((first|(apply A0;omega)|fail)<;>conv=>whnf))
   exact BR [] (sh (m2.set i cb) (i+1) (by omega) ⟨xj,by omega,by omega⟩)
 ·have ei:i=n:=by omega
  clear sh;rw[ei]at hS;(repeat' ((first|(apply AG<;>intro hc<;>try omega)|apply AC)<;>conv=>whnf))
  exact BL [] (by (conv=>whnf);exact ⟨rfl,rfl,rfl⟩) (ae m2 hS)
theorem eD {a b:List (List Rat)} {n w k:Nat} (z8 : ∀ r∈a,r.length=n) (mj : ∀ r∈b,r.length=w) (bj:Ms k a) (ij:Ms k b):(∀ r∈DI a b,r.length=n+w)/\Ms k (DI a b):=by
 constructor
 ·intro r hr
  obtain ⟨i,hi⟩:=List.getElem?_of_mem hr;have au:=(zS hi).1;simp only[DI,List.length_zipWith]at au;obtain ⟨x,hx⟩ : ∃ x,a[i]? = some x:=⟨_,zE (by omega)⟩;obtain ⟨y,hy⟩ : ∃ y,b[i]? = some y:=⟨_,zE (by omega)⟩;obtain rfl:=Option.some.inj ((TD hx hy).symm.trans hi);rw[List.length_append,z8 x (zM hx),mj y (zM hy)]
 ·intro r hr
  obtain ⟨i,hi⟩:=List.getElem?_of_mem hr;have au:=(zS hi).1;simp only[DI,List.length_zipWith]at au;obtain ⟨x,hx⟩ : ∃ x,a[i]? = some x:=⟨_,zE (by omega)⟩;obtain ⟨y,hy⟩ : ∃ y,b[i]? = some y:=⟨_,zE (by omega)⟩;obtain rfl:=Option.some.inj ((TD hx hy).symm.trans hi);intro z hz;rcases List.mem_append.1 hz with hz|hz
  ·exact bj.at hx z hz
  ·exact ij.at hy z hz
theorem oX (N:e8 L) (q q1 q2 q3:Bool) (aw bw:List (List AQ)) (n w k K0:Nat) (k7:aw.length=n) (j9 : ∀ r∈aw,r.length=n) (bp:bw.length=n) (dj : ∀ r∈bw,r.length=w) (hn:1<=n/\n<=52) (hw:1<=w/\w<=52) (wz:k<=K0) (nb:1<=K0) (cq:CD k aw) (kj:CD k bw)
  (eo : ∀ r∈DI (vM aw) (vM bw),∀ j,Bt K0 (AZ (r.take j))) (xp:Ms K0 (whole (DI (vM aw) (vM bw))))
  (hB:6^n*K0<=1000000000000) (hC:DU (6^n*K0) n n<=1000000000000) {B0:Nat} (uq:DU (6^n*K0) n n+6^n*K0<=B0) :
  ∃ v,Ev L 235 [.sl q (BO q1 aw),.sl q2 (BO q3 bw)] v/\((¬ NS n (vM aw)/\v = .g9 [.sl false [],.int .i64 11])\/(NS n (vM aw) /\ ∃ y:Nat->List Rat,v = .g9 [.sl false (eM (JW y n w)),.int .i64 0] /\
   ∀ c,c<w->(y c).length=n/\Bs B0 (y c) /\ ∀ (i:Nat) (r s:List Rat),(vM aw)[i]? = some r->(vM bw)[i]? = some s->A5 r (y c)=s.getD c 0)):=by
 obtain ⟨a,v8⟩ : ∃ a,vM aw=a:=⟨_,rfl⟩;obtain ⟨b,gv⟩ : ∃ b,vM bw=b:=⟨_,rfl⟩;rw[v8,gv]at eo xp ⊢;have ah:a.length=n:=v8 ▸ F9 k7;have z8 : ∀ r∈a,r.length=n:=v8 ▸ GK j9;have bj:Ms k a:=v8 ▸ cq.ms;have gy:b.length=n:=gv ▸ F9 bp;have mj : ∀ r∈b,r.length=w:=gv ▸ GK dj;have ij:Ms k b:=gv ▸ kj.ms;have zf:=qK k7 bp;obtain ⟨Ct,Cs⟩:=qJ j9 dj cq kj;have Jg:vM (EC aw bw)=DI a b:=by rw[iQ,v8,gv]
 have hI:=KM N.toa8 1 (by omega);have ew:(DI a b).length=n:=by simp [DI,ah,gy]
 have wy : ∀ r∈DI a b,r.length=n+w:=λ r hr=>by
  obtain ⟨i,hi⟩:=List.getElem?_of_mem hr;have au:=(zS hi).1;obtain ⟨x,hx⟩ : ∃ x,a[i]? = some x:=⟨_,zE (by omega)⟩;obtain ⟨y,hy⟩ : ∃ y,b[i]? = some y:=⟨_,zE (by omega)⟩;obtain rfl:=Option.some.inj ((TD hx hy).symm.trans hi);rw[List.length_append,z8 x (zM hx),mj y (zM hy)]
 have yl:Ms k (DI a b):=λ r hr=>by
  obtain ⟨i,hi⟩:=List.getElem?_of_mem hr;have au:=(zS hi).1;obtain ⟨x,hx⟩ : ∃ x,a[i]? = some x:=⟨_,zE (by omega)⟩;obtain ⟨y,hy⟩ : ∃ y,b[i]? = some y:=⟨_,zE (by omega)⟩;obtain rfl:=Option.some.inj ((TD hx hy).symm.trans hi);intro z hz;rcases List.mem_append.1 hz with hz|hz
  ·exact bj.at hx z hz
  ·exact ij.at hy z hz
 refine Ev.xE N.LO rfl rfl ?_;(repeat' ((first|apply AW|apply AC)<;>conv=>whnf))
 unfold C6;refine ⟨⟨by omega,by omega,by simp only[D5];omega,by omega⟩,?_⟩;rw[Int.toNat_natCast,k7];(conv=>whnf)
 skip
 refine wS 22 22 n rfl ?_;refine D0 (λ i=>n-i) (λ(i:Nat)=>i<=n) (λ i=>[(25,.int .i64 i)]) (λ i=>[(22,22,.rw 1 ((fz none (((EC aw bw).take i).map some) n).map cS))]) [] [] 0 (by first|exact (by (conv=>whnf);exact ⟨rfl,rfl,rfl⟩)|(rw[List.take_zero,List.map_nil,show fz (none:Option (List AQ)) [] n=List.replicate n none by simp [fz],List.map_replicate];exact (by (conv=>whnf);exact ⟨rfl,rfl,rfl⟩))) (by omega) ?_;intro i p1 ih;by_cases hi:i<n
 ·obtain ⟨r,k9⟩ : ∃ r,aw[i]? = some r:=⟨_,zE (by omega)⟩
  obtain ⟨s,kx⟩ : ∃ s,bw[i]? = some s:=⟨_,zE (by omega)⟩;have mn:aw[(i:Int).toNat]? = some r:=k9;have qy:bw[(i:Int).toNat]? = some s:=kx;have cn:=j9 r (zM k9);have Mz:=dj s (zM kx);have hCc:=Xk N true q1 q3 r s (by omega) (by omega) (by omega);have mb:(((EC aw bw).take i).map some).length=i:=by rw[List.length_map,List.length_take];omega
  have lu:=dR (z:=(none:Option (List AQ))) (l:=((EC aw bw).take i).map some) (m:=n) (by omega);have jc:=dS (z:=(none:Option (List AQ))) (x:=some (r++s)) (l:=((EC aw bw).take i).map some) (m:=n) (by omega);have hta:(EC aw bw).take (i+1)=(EC aw bw).take i++[r++s]:=by rw[List.take_add_one,eC k9 kx];rfl
  rw[mb,show ((EC aw bw).take i).map some++[some (r++s)]=((EC aw bw).take (i+1)).map some by rw[hta,List.map_append];rfl]at jc;generalize fz (none:Option (List AQ)) (((EC aw bw).take i).map some) n=J at *;(repeat' ((first|(apply AG<;>intro hc<;>try omega)|(apply AU;omega)|(refine BD (by assumption) ?_ rfl ?_;omega)|refine PJ rfl rfl ?_|apply AC|refine AE (hCc) ?_)<;>conv=>whnf))
  refine FJ (enc:=cS) (some (r++s)) rfl (λ e=>by cases e<;>rfl) (by omega) ?_;(conv=>whnf)
  rw[jc];(repeat' ((first|(apply A0;omega)|fail)<;>conv=>whnf))
  exact BR [] (ih (i+1) (by omega) (by omega))
 have ei:i=n:=by omega
 clear ih;rw[ei,zT (by omega),Zo zf];(repeat' ((first|(apply AG<;>intro hc<;>try omega)|apply AC)<;>conv=>whnf))
 have ur:K0<=1000000000000:=by simpa using JX hB (Nat.zero_le n)
 refine E2 1000 N.FK rfl rfl ?_;(repeat' (apply AC<;>conv=>whnf))
 unfold C6;refine ⟨⟨by omega,by omega,by simp only[D5];omega,by omega⟩,?_⟩;rw[Int.toNat_natCast];(conv=>whnf)
 skip
 refine ER (enc:=eO) none n rfl (by omega) (by omega) ?_;(conv=>whnf)
 skip
 refine BL [] (by (conv=>whnf);exact ⟨rfl,rfl,rfl⟩) (Ahc N q q1 q2 q3 aw bw (EC aw bw) n (n+w) k zf Ct hn (by omega) Cs (Jg.symm ▸ eo) wz ur ?_);rw[Jg];(repeat' (apply AC<;>conv=>whnf))
 refine ⟨rfl,_,rfl,?_⟩;(conv=>whnf)
 skip
 have ta:n+w<=104:=by omega
 have hW:n<=n+w:=by omega
 have db:(whole (DI a b)).length=n:=by simp only[whole,List.length_map];exact ew
 have qt:=T6 wy;have qp:=xp;have jx:=iU (DI a b);have Lt:a.length=b.length:=by omega
 clear yl wy bj ij ur ei hi p1 i eo xp wz;generalize whole (DI a b)=m0 at db qt qp jx ⊢;refine FB 1000 N.G3 rfl rfl ?_;(repeat' ((first|apply AC|refine AE (hI) ?_)<;>conv=>whnf))
 refine aN (λ_ P _ _ _=>n-P.length) (λ(m:List (List Rat)) (P:List Nat) (c:Nat) (odd:Bool) (l:Rat)=>EN m0 K0 (n+w) n m P c odd l) (λ_ P c odd _=>[(7,.int .i64 (P.length:Nat)),(8,.int .i64 c),(9,.bool odd)]) (λ m _ _ _ l=>[(231016,231016,.mx (A8 3 eQ m)),(233010,233010,.bx (eQ l))]) [] [] m0 [] 0 false ((1:Int):Rat) (by (conv=>whnf);exact ⟨rfl,rfl,rfl⟩) (EN.start qt qp) ?_;intro m P c odd l hE eh;have bb:=hE.len;have tu:=hE.o5.pl;rw[db]at bb;by_cases hP:P.length<n
 ·have Px:=JX hB (show P.length<=n by omega)
  (repeat' ((first|(apply AG<;>intro hc<;>try omega)|apply AC)<;>conv=>whnf))
  refine aP (l:=[_,_]) (λ(m1:List (List Rat)) (c:Nat) (o:Bool)=>EN m0 K0 (n+w) n m1 P c o l/\(c<n -> ∃ rp,m1[P.length]? = some rp/\rp.getD c 0≠0)) (λ_ c o=>[(8,.int .i64 c),(9,.bool o)]) (λ m1 _ _=>[(231016,231016,.mx (A8 3 eQ m1))]) [17] rfl ?_ ?_
  ·clear hE bb tu
   intro m1 c Hx ⟨hE,pj⟩;have bb:=hE.len;have tu:=hE.o5.pl;have ax:=hE.cc;rw[db]at bb;by_cases ft:c<n
   ·obtain ⟨rp,Ay,uz⟩:=pj ft
    clear pj;have hS:=hE.Oh ft Ay uz;(repeat' ((first|(apply AG<;>intro hc<;>try omega)|(apply A0;omega)|apply AC)<;>conv=>whnf))
    refine BL [] (by (conv=>whnf);exact ⟨rfl,rfl,rfl⟩) (Ahb N q2 q3 bw (EC aw bw) ((DI a b).map AZ) db hn hW ta nb hB hP ft hS λ m2 hS => ?_);have br:=hS.ht;have Hf:=hS.o5.lr rp (zM br);have eb:rp[c]? = some (rp.getD c 0):=GH (by omega);have kp:=hS.len;have ae:=hS.done nb (by omega);have nw:(P++[c]).length=P.length+1:=by simp
    generalize rp.getD c 0=pv at eb ae;clear hS hE uz Ay;(repeat' ((first|(apply AU;omega)|(refine EK ?_ (λ r hr => ?_);omega)|apply AC)<;>conv=>whnf))
    cases br.symm.trans hr;refine AU (by rw[List.length_map];omega) ?_;(conv=>whnf)
    (repeat' ((first|(apply A0;omega)|(refine DQ ?_ (λ_=>rfl) (λ v hv => ?_);omega)|refine EV (by assumption) ?_)<;>conv=>whnf))
    cases eb.symm.trans hv;skip
    rw[show ((P.length:Nat):Int)+1=((P++[c]).length:Nat) by rw[nw];omega];exact BL [] (by (conv=>whnf);exact ⟨rfl,rfl,rfl⟩) (eh m2 (P++[c]) (c+1) _ pv (by rw[nw];omega) ae)
   ·clear eh pj
    (repeat' ((first|(apply AG<;>intro hc<;>try omega)|apply AC)<;>conv=>whnf))
    refine ⟨rfl,?_⟩;(conv=>whnf)
    (repeat' ((first|(apply AG<;>intro hc<;>try omega)|fail)<;>conv=>whnf))
    have z9:n<=c\/n<=P.length:=Or.inl (by omega);have te:=YD (w:=w) hE jx Lt z8 ah z9;skip
    refine ⟨.g9 [.sl false [],.int .i64 11],?_,Or.inl ⟨λ h=>absurd (te.2 h) (by omega),rfl⟩⟩;(conv=>whnf)
    exact AY rfl (H2 [] 11)
  ·clear eh
   intro ea;refine D0 (λ c=>n-c) (λ(c:Nat)=>EN m0 K0 (n+w) n m P c odd l) (λ c=>[(8,.int .i64 c)]) (λ_=>[]) [17] [] c (by (conv=>whnf);exact ⟨rfl,rfl,rfl⟩) hE ?_;clear hE;intro c hE ch;have ax:=hE.cc;by_cases ft:c<n
   ·(repeat' ((first|(apply AG<;>intro hc<;>try omega)|apply AC)<;>conv=>whnf))
    refine DT (λ i=>n-i) (λ(i:Nat)=>P.length<=i/\i<=n /\ ∀ (q:Nat) (r:List Rat),P.length<=q->q<i->m[q]? = some r->r.getD c 0=0) (λ i=>[(11,.int .i64 i)]) (λ_=>[]) P.length ⟨Nat.le_refl _,by omega,λ q r h1 h2=>absurd h1 (by omega)⟩ ?_;intro i ⟨i1,i2,i3⟩ ih;by_cases hi:i<n
    ·obtain ⟨rp,k9⟩ : ∃ r,m[i]? = some r:=⟨_,zE (by omega)⟩
     have cn:=hE.o5.lr rp (zM k9);have cr:rp[c]? = some (rp.getD c 0):=GH (by omega);have qh:=dG N.toa8 (hE.ms.at k9 _ (zM cr)) (by omega);have hz:=ZX (x:=rp.getD c 0);generalize je:rp.getD c 0=rc at *;generalize fb rc.num=sg at *;by_cases mq:sg=0
     ·(repeat' ((first|(apply AG<;>intro hc<;>try omega)|(apply AU;omega)|(refine EK ?_ (λ r hr => ?_);omega)|apply AC)<;>conv=>whnf))
      cases k9.symm.trans hr;refine AU (by rw[List.length_map];omega) ?_;(conv=>whnf)
      (repeat' ((first|(refine DQ ?_ (λ_=>rfl) (λ v hv => ?_);omega)|refine EV (by assumption) ?_)<;>conv=>whnf))
      cases cr.symm.trans hv;(repeat' ((first|(apply AG<;>intro hc<;>try omega)|(apply A0;omega)|refine AE (qh) ?_)<;>conv=>whnf))
      refine BL [] (by (conv=>whnf);exact ⟨rfl,rfl,rfl⟩) (ih (i+1) (by omega) ⟨by omega,by omega,λ q x h1 h2 hx => ?_⟩);by_cases e:q=i
      ·subst e
       cases k9.symm.trans hx;rw[je];exact hz.1 mq
      ·exact i3 q x h1 (by omega) hx
     ·clear ih ch
      have qu:rc≠0:=λ e=>mq (hz.2 e)
      (repeat' ((first|(apply AG<;>intro hc<;>try omega)|(apply AU;omega)|(refine EK ?_ (λ r hr => ?_);omega)|apply AC)<;>conv=>whnf))
      cases k9.symm.trans hr;refine AU (by rw[List.length_map];omega) ?_;(conv=>whnf)
      (repeat' ((first|(refine DQ ?_ (λ_=>rfl) (λ v hv => ?_);omega)|refine EV (by assumption) ?_)<;>conv=>whnf))
      cases cr.symm.trans hv;(repeat' ((first|(apply AG<;>intro hc<;>try omega)|(apply AU;omega)|(refine EK ?_ (λ r hr => ?_);omega)|refine EV (by assumption) ?_|refine AE (qh) ?_)<;>conv=>whnf))
      ·obtain ⟨t,ti⟩ : ∃ t,m[P.length]? = some t:=⟨_,zE (by omega)⟩
       refine AU ⟨rfl,by simp only[A8,List.length_map];omega⟩ ?_;(conv=>whnf)
       (repeat' ((first|(apply AU;omega)|refine EV (by assumption) ?_)<;>conv=>whnf))
       rw[show 0+((i:Nat):Int).toNat=i by omega,show 0+((P.length:Nat):Int).toNat=P.length by omega];refine AU ⟨rfl,by simp only[A8,List.length_map,List.length_set,List.length_range];omega,aL (by simp only[A8,List.length_map];omega)⟩ ?_;(conv=>whnf)
       skip
       have Fe:=hE.swap k9 ti i1 (Nat.le_refl _) (by omega);have Fj:c<n -> ∃ Bk,((m.set i t).set P.length rp)[P.length]? = some Bk/\Bk.getD c 0≠0:=λ_=>⟨rp,by rw[List.getElem?_set,if_pos rfl,if_pos (by rw[List.length_set];omega)],by rw[je];exact qu⟩
       generalize Pv:(!odd)=ob at *;cases ob;all_goals
        (conv=>whnf)
        skip
        refine NW.go ?_;refine WS (k:=231016) (i:=i) (j:=P.length) rfl (I9 k9) (I9 ti) rfl rfl ?_;rw[fU];exact BL [] (by (conv=>whnf);exact ⟨rfl,rfl,rfl⟩) (ea _ c _ ⟨Fe,Fj⟩)
      ·have ei:i=P.length:=by omega
       exact NW.go (BL [] (by (conv=>whnf);exact ⟨rfl,rfl,rfl⟩) (ea m c odd ⟨hE,λ_=>⟨rp,by rw[<-ei];exact k9,by rw[je];exact qu⟩⟩))
    ·have ei:i=n:=by omega
     clear ih;(repeat' ((first|(apply AG<;>intro hc<;>try omega)|(apply A0;omega)|apply AC)<;>conv=>whnf))
     exact BR [] (ch (c+1) (by omega) (hE.skip ft λ q x h1 hx=>i3 q x h1 (by have:=(zS hx).1;omega) hx))
   ·clear ch
    (repeat' ((first|(apply AG<;>intro hc<;>try omega)|apply AC)<;>conv=>whnf))
    exact NW.go (BL [] (by (conv=>whnf);exact ⟨rfl,rfl,rfl⟩) (ea m c odd ⟨hE,λ h=>absurd h ft⟩))
 ·clear eh
  (repeat' ((first|(apply AG<;>intro hc<;>try omega)|apply AC)<;>conv=>whnf))
  refine ⟨rfl,?_⟩;(conv=>whnf)
  (repeat' ((first|(apply AG<;>intro hc<;>try omega)|fail)<;>conv=>whnf))
  have z9:n<=c\/n<=P.length:=Or.inr (by omega);have te:=YD (w:=w) hE jx Lt z8 ah z9;have oz:P.length=n:=by have:=hE.o5.le;have:=hE.o5.pl;omega
  have ic:=te.1 oz;have Lj:=Aha hE jx Lt z8 mj oz bb;have Nl:=uY hE oz bb;have hmw:=hE.o5.lr;have fc:=hE.ms;have tv:=hE.bl;have da:=hE.l0;rw[oz]at fc tv;clear hE te tu qp qt jx;have Ip : ∀ (e:Nat) (r:List Rat),m[e]? = some r->r.getD e 0≠0:=λ e r hr=>by
   rw[<-PK hr];exact (Nl e (by have:=(zS hr).1;omega)).1
  skip
  unfold C6;refine ⟨⟨by omega,by omega,by simp only[D5];omega,by omega⟩,?_⟩;rw[Int.toNat_natCast];(conv=>whnf)
  skip
  refine DT (λ u=>n-u) (λ(u:Nat)=>u<=n) (λ u=>[(61,.int .i64 u)]) (λ u=>[(58,58,.mx (List.replicate u (some (3,(DG [] w).map eO))++List.replicate (n-u) none))]) 0 (by omega) ?_;intro u r1 uh;by_cases hu:u<n
  ·obtain ⟨s,kx⟩ : ∃ s,bw[u]? = some s:=⟨_,zE (by omega)⟩
   have qy:bw[(u:Int).toNat]? = some s:=kx;have Mz:=dj s (zM kx);(repeat' ((first|(apply AG<;>intro hc<;>try omega)|apply AW|(refine BD (by assumption) ?_ rfl ?_;omega)|apply AC)<;>conv=>whnf))
   rw[Mz];refine ER (enc:=eO) none w rfl rfl (by omega) ?_;(conv=>whnf)
   (repeat' ((first|(apply AU;omega)|fail)<;>conv=>whnf))
   unfold AM CQ;refine ⟨by simp,by simp;omega,?_⟩;(conv=>whnf)
   rw[show 0+((u:Int)).toNat=u by omega,<-I7,Zl _ _ r1 hu];(repeat' ((first|(apply A0;omega)|fail)<;>conv=>whnf))
   exact BR [] (uh (u+1) (by omega) (by omega))
  have eu:u=n:=by omega
  subst eu;clear uh;obtain ⟨y,hy⟩ : ∃ y:Nat->List Rat,y=λ c'=>(EW (u+c') l m 0).map (· / l):=⟨_,rfl⟩
  have uf : ∀ c',(y c').length=u:=λ c'=>by rw[hy,List.length_map,OQ];exact bb
  have Al:(JW y u w).length=u:=by simp [JW]
  have yv : ∀ e,e<u->(JW y u w)[e]? = some ((List.range w).map λ c'=>(y c').getD e 0):=λ e he=>by simp [JW,he]
  have Ox : ∀ r∈JW y u w,r.length=w:=λ r hr=>by
   obtain ⟨i,_,rfl⟩:=List.mem_map.1 hr;simp
  rw[show List.replicate u (some (3,List.map eO (DG [] w)))++List.replicate (u-u) none=A8 3 eO (ot (JW y u w) w 0 0) by rw[Aft,Al];simp [A8]];obtain ⟨s0,kx⟩ : ∃ s,bw[0]? = some s:=⟨_,zE (by omega)⟩;have Hh:bw[(0:Int).toNat]? = some s0:=kx;have Mu:=dj s0 (zM kx);generalize hRg:JW y u w=R at Al yv Ox ⊢;(repeat' ((first|(apply AG<;>intro hc<;>try omega)|apply AW|(refine BD (by assumption) ?_ rfl ?_;omega)|apply AC)<;>conv=>whnf))
  rw[Mu];refine DT (λ c=>w-c) (λ(c:Nat)=>c<=w) (λ c=>[(78,.int .i64 c)]) (λ c=>[(58,58,.mx (A8 3 eO (ot R w c 0)))]) 0 (by omega) ?_;intro c' r2 ch;by_cases oa:c'<w
  ·have Bx:=Wq N true true m u (u+w) (u+c') (6^u*K0) l bb hmw (by omega) (by omega) (by omega) (by omega) Ip fc tv (by omega)
   have Cg:=XL (c:=u+c') (n:=u) tv m 0 (by omega) fc;have zw:=OQ (u+c') l m 0;have Jj : ∀ (e:Nat) (x:Rat),(EW (u+c') l m 0)[e]? = some x->(y c').getD e 0=x/l:=λ e x hx=>by
    rw[hy,List.getD_eq_getElem?_getD,List.getElem?_map,hx];rfl
   rw[bb]at Cg zw;rw[Int.natCast_add]at Bx;generalize EW (u+c') l m 0=xs at Bx Cg zw Jj;(repeat' ((first|(apply AG<;>intro hc<;>try omega)|(apply A0;omega)|apply AC)<;>conv=>whnf))
   refine KH (λ_=>rfl) rfl (by omega) ?_;(conv=>whnf)
   (repeat' ((first|apply AW|refine AE (Bx) ?_)<;>conv=>whnf))
   refine DT (λ f=>u-f) (λ(f:Nat)=>f<=u) (λ f=>[(88,.int .i64 f)]) (λ f=>[(58,58,.mx (A8 3 eO (ot R w c' f)))]) 0 (by omega) ?_;intro f r5 fh;by_cases hf2:f<u
   ·obtain ⟨x,hx⟩ : ∃ x,xs[f]? = some x:=⟨_,zE (by omega)⟩
    have mw:xs[(f:Int).toNat]? = some x:=hx;have bx:=Cg.at hx;have hD:=Q9 N.toa8 bx tv (by omega) (by omega) da;have Ak:=yv f hf2;have Pr:((List.range w).map λ c'=>(y c').getD f 0)[c']? = some (x/l):=by rw[List.getElem?_map,List.getElem?_range oa,Option.map_some,Jj f x hx]
    have Ly:((List.range w).map λ c'=>(y c').getD f 0).length=w:=by simp
    generalize ((List.range w).map λ c'=>(y c').getD f 0)=row at Ak Pr Ly;have Pu:=ZH (n:=w) (j:=c') (i:=f) Ak;rw[if_neg (by omega)]at Pu;have hos:=Afs (n:=w) (j:=c') Ak;have Jb:=VZ R w c' f;have Ax:=H6 (l:=row.take c') (m:=w) (by rw[List.length_take];omega);have m4:=I8 (l:=row.take c') (m:=w) (x:=x/l) (by rw[List.length_take];omega);rw[List.length_take,Nat.min_eq_left (by omega),<-G7 Pr]at m4;generalize ot R w c' f=O at *;(repeat' ((first|(apply AG<;>intro hc<;>try omega)|(apply AU;omega)|(refine BD (by assumption) ?_ rfl ?_;omega)|(refine EK ?_ (λ r hr => ?_);omega)|apply AC|refine AE (hD) ?_)<;>conv=>whnf))
    cases Pu.symm.trans hr;skip
    have AmN:=H6 (l:=row.take (c'+1)) (m:=w) (by rw[List.length_take];omega);refine AU (by rw[List.length_map];omega) ?_;(conv=>whnf)
    (repeat' ((first|refine EV (by assumption) ?_|fail)<;>conv=>whnf))
    refine FJ (enc:=eO) (some (x/l)) rfl (λ e=>by cases e<;>rfl) (by omega) ?_;(conv=>whnf)
    rw[m4];refine zI (by omega) ?_;rw[hos];(conv=>whnf)
    (repeat' ((first|(apply A0;omega)|fail)<;>conv=>whnf))
    exact BR [] (fh (f+1) (by omega) (by omega))
   have ef:f=u:=by omega
   clear fh;have uy:=Afr R w c';rw[Al]at uy;rw[ef,uy];(repeat' ((first|(apply AG<;>intro hc<;>try omega)|(apply A0;omega)|apply AC)<;>conv=>whnf))
   exact BR [] (ch (c'+1) (by omega) (by omega))
  have ec:c'=w:=by omega
  clear ch;rw[ec,Afq Ox];(repeat' ((first|(apply AG<;>intro hc<;>try omega)|apply AC)<;>conv=>whnf))
  refine ⟨.g9 [.sl false (eM R),.int .i64 0],?_,Or.inr ⟨ic,y,by rw[<-hRg],λ c2 oa=>⟨uf c2,?_,λ i r s h1 h2=>by rw[hy];exact Lj c2 oa i r s h1 h2⟩⟩⟩
  ·(conv=>whnf)
   refine KH (λ_=>rfl) rfl (by omega) ?_;(conv=>whnf)
   exact AY rfl (H2 R 0)
  ·rw[hy]
   intro z hz;obtain ⟨x,hx,rfl⟩:=List.mem_map.1 hz;have Cg:=XL (c:=u+c2) (n:=u) tv m 0 (by omega) fc;rw[bb]at Cg;exact ((Cg x hx).vz tv).le (by omega)
theorem yU {R:List (Option (Nat × List (List AV)))} {e:Nat} {r:Option (Nat × List (List AV))} {K:Option (Nat × List (List AV))->Prop} (h:R[e]? = some r) (hk:K r):BN R e K:=by
 unfold BN;exact ⟨r,h,hk⟩
theorem fD {α:Type} {a b:List α} {j:Nat} {x:α} (hl:a.length=b.length) (hx:b[j]? = some x):(a.take j++b.drop j)[j]? = some x:=by
 have h1:=(zS hx).1;have ht:(a.take j).length=j:=by rw[List.length_take];omega
 rw[List.getElem?_append_right (by omega),ht,Nat.sub_self,List.getElem?_drop];exact hx
theorem fE {α:Type} {a b:List α} {j:Nat} {y:α} (hl:a.length=b.length) (hy:a[j]? = some y):(a.take j++b.drop j).set j y=a.take (j+1)++b.drop (j+1):=by
 have h1:=(zS hy).1;have ht:(a.take j).length=j:=by rw[List.length_take];omega
 rw[List.set_append_right _ _ (by omega),ht,Nat.sub_self,List.drop_eq_getElem_cons (by omega),List.set_cons_zero,List.take_add_one,hy,List.append_assoc];rfl
def FF (k0:Nat):Nat->Nat
 | 0=>k0
 | c+1=>4*FF k0 c+1
theorem tJ (k0:Nat) {c:Nat} : ∀ d,FF k0 c<=FF k0 (c+d)
 | 0=>Nat.le_refl _
 | d+1=>by
  have:=tJ k0 (c:=c) d
  show FF k0 c<=4*FF k0 (c+d)+1;omega
theorem jQ {R:List (Option (Nat × List (List AV)))} {e:Nat} {r:Option (Nat × List (List AV))} {K:Option (Nat × List (List AV))->Prop} (h:R[e]? = some r) (hk:K r):BN R e K:=by
 unfold BN;exact ⟨r,h,hk⟩
theorem rX {T:List (List Rat)} {n i:Nat} (hl:T.length=n) (hi:i<n):(mz T n i)[i]? = some none:=by
 have iz:(A8 3 eQ (T.take i)).length=i:=by simp only[A8,List.length_map,List.length_take];omega
 have:=Zn (z:=(none:Option (Nat × List (List AV)))) (l:=A8 3 eQ (T.take i)) (m:=n) (by omega)
 rw[iz]at this;exact this
theorem oB (N:bh L) (q q':Bool) (aw:List (List AQ)) (n w k:Nat) (k7:aw.length=n) (j9 : ∀ r∈aw,r.length=w) (hn:1<=n/\n<=52) (hw:1<=w/\w<=52) (cq:CD k aw):Ev L 246 [.sl q (BO q' aw)] (.sl false (eM (FM (vM aw) w))):=by
 obtain ⟨a,v8⟩ : ∃ a,vM aw=a:=⟨_,rfl⟩;rw[v8];have ah:a.length=n:=v8 ▸ F9 k7;have fm : ∀ i,i<w->(FM a w)[i]? = some (DF a i):=λ i h=>iP h
 have ct:=aC a w;have Cj : ∀ i,(DF a i).length=n:=λ i=>by simp [DF,ah]
 have hx : ∀ i j,i<w->j<n -> ∃ (r:List AQ) (x:AQ),aw[j]? = some r/\r[i]? = some x/\(DF a i)[j]? = some x.v/\r.length=w/\x.Fit k:=λ i j h1 h2=>by
  obtain ⟨r,hr⟩ : ∃ r,aw[j]? = some r:=⟨_,zE (by omega)⟩;have cn:=j9 r (zM hr);obtain ⟨x,hx⟩ : ∃ x,r[i]? = some x:=⟨_,zE (by omega)⟩;have zm:=GV hr;rw[v8]at zm;exact ⟨r,x,hr,hx,by rw[DF,List.getElem?_map,zm,Option.map_some,List.getD_eq_getElem?_getD,SC hx];rfl,cn,cq r (zM hr) x (zM hx)⟩
 obtain ⟨r0,k9⟩ : ∃ r,aw[0]? = some r:=⟨_,zE (by omega)⟩;have ek:aw[(0:Int).toNat]? = some r0:=k9;have da:=j9 r0 (zM k9);generalize hT:FM a w=T at *;refine Ev.x N.LP rfl rfl ?_;(repeat' ((first|apply AW|(refine BD (by assumption) ?_ rfl ?_;omega)|apply AC)<;>conv=>whnf))
 unfold C6;refine ⟨⟨by omega,by omega,by simp only[D5];omega,by omega⟩,?_⟩;rw[Int.toNat_natCast,da];(conv=>whnf)
 skip
 refine D0 (λ i=>w-i) (λ(i:Nat)=>i<=w) (λ i=>[(13,.int .i64 i)]) (λ i=>[(10,10,.mx (mz T w i))]) [] [] 0 (by first|exact (by (conv=>whnf);exact ⟨rfl,rfl,rfl⟩)|(rw[<-P5 T];exact (by (conv=>whnf);exact ⟨rfl,rfl,rfl⟩))) (by omega) ?_;intro i p1 ih;have Dh:=P3 (Q:=T) p1;by_cases hi:i<w
 ·have m4:=P4 (fm i hi) hi
  have Pb:=Cj i;have jz:=rX ct hi;obtain ⟨r,x,e1,e2,e3,cn,Eg⟩:=hx i 0 hi (by omega);have Ag:aw[(0:Int).toNat]? = some r:=e1;have yf:r[(i:Int).toNat]? = some x:=e2;have Fl:=oY N.toa8 Eg.2 (Nat.le_refl _);have Fw:(DF a i).take 1=[x.v]:=by rw[List.take_add_one,e3];rfl
  generalize mz T w i=R0 at *;(repeat' ((first|(apply AG<;>intro hc<;>try omega)|apply AW|apply AC)<;>conv=>whnf))
  refine aO ?_;(repeat' ((first|(apply AG<;>intro hc<;>try omega)|(apply AU;omega)|apply AC)<;>conv=>whnf))
  refine jQ (r:=none) (by rw[Nat.zero_add,Int.toNat_natCast];exact jz) ?_;(conv=>whnf)
  (repeat' ((first|(refine BD (by assumption) ?_ rfl ?_;omega)|apply FI|refine AE (Fl) ?_)<;>conv=>whnf))
  refine jB (enc:=eQ) x.v rfl rfl (by omega) ?_;(conv=>whnf)
  (repeat' ((first|(apply AU;omega)|fail)<;>conv=>whnf))
  refine AU rfl ?_;refine K5 (i:=i) (by omega) (by omega) ?_;(conv=>whnf)
  (repeat' ((first|(apply A0;omega)|fail)<;>conv=>whnf))
  refine D0 (λ j=>n-j) (λ(j:Nat)=>1<=j/\j<=n) (λ j=>[(18,.int .i64 j)]) (λ j=>[(10,10,.mx (R0.set i (some (3,((DF a i).take j).map eQ))))]) [] [] 1 (by first|exact (by (conv=>whnf);exact ⟨rfl,rfl,rfl⟩)|(rw[Fw];exact (by (conv=>whnf);exact ⟨rfl,rfl,rfl⟩))) (by omega) ?_;intro j ⟨r1,r2⟩ jh;have ka:((DF a i).take j).length=j:=by rw[List.length_take];omega
  by_cases hj:j<n
  ·obtain ⟨r,x,e1,e2,e3,cn,Eg⟩:=hx i j hi hj
   have Ag:aw[(j:Int).toNat]? = some r:=e1;have yf:r[(i:Int).toNat]? = some x:=e2;have Fl:=oY N.toa8 Eg.2 (Nat.le_refl _);have hs:=K2 e3;have Nh:((DF a i).take (j+1)).length=j+1:=by rw[List.length_take];omega
   generalize (DF a i).take j=W at *;(repeat' ((first|(apply AG<;>intro hc<;>try omega)|(apply AU;omega)|apply AC)<;>conv=>whnf))
   refine I2 (by omega) (by omega) ?_;(conv=>whnf)
   (repeat' ((first|(refine BD (by assumption) ?_ rfl ?_;omega)|apply FI|refine AE (Fl) ?_)<;>conv=>whnf))
   refine GM (by omega) (by omega) ?_;(conv=>whnf)
   refine FS (enc:=eQ) x.v rfl (by rw[List.length_map]) rfl (by omega) (by omega) ?_;intro s' v;rw[<-hs,Nh];(conv=>whnf)
   (repeat' ((first|(apply AU;omega)|fail)<;>conv=>whnf))
   refine AU ⟨rfl,by rw[List.length_map];omega⟩ ?_;refine K5 (i:=i) (by omega) (by rw[List.length_set,List.length_set];omega) ?_;rw[show 0+((i:Int)).toNat=i by omega,List.set_set,List.set_set];(conv=>whnf)
   (repeat' ((first|(apply A0;omega)|fail)<;>conv=>whnf))
   exact BR [] (jh (j+1) (by omega) (by omega))
  have ej:j=n:=by omega
  clear jh;rw[ej,zT (by omega),m4];(repeat' ((first|(apply AG<;>intro hc<;>try omega)|(apply A0;omega)|apply AC)<;>conv=>whnf))
  exact BR [] (ih (i+1) (by omega) (by omega))
 have ei:i=w:=by omega
 clear ih;rw[ei,P2 (by omega)];(repeat' ((first|(apply AG<;>intro hc<;>try omega)|apply AC)<;>conv=>whnf))
 refine KH (λ_=>rfl) rfl (by omega) ?_;(conv=>whnf)
 exact AY rfl (lB T)
theorem Xv (N:bh L) (q q':Bool) (aw:List (List AQ)) (n w k:Nat) (k7:aw.length=n) (j9 : ∀ r∈aw,r.length=w) (hn:1<=n/\n<=52) (hw:1<=w/\w<=52) (cq:CD k aw):Ev L 247 [.sl q (BO q' aw)] (.g9 [.sl false (eM (FM (vM aw) w)),.int .i64 0]):=by
 have hV:=PQ N.toe8 q q' aw n w k7 j9 hn hw;have hT:=oB N q q' aw n w k k7 j9 hn hw cq;refine Ev.x N.JQ rfl rfl ?_;(repeat' ((first|apply AC|refine AE (hV) ?_|refine AE (hT) ?_)<;>conv=>whnf))
 exact AY rfl (H2 (FM (vM aw) w) 0)
theorem nI {m0 m a:List (List Rat)} {K w n c:Nat} {P:List Nat} {odd:Bool} {l:Rat} (hE:EN m0 K w w m P c odd l) (hs:QU m0 a) (ah:a.length=n) (z9:w<=c\/n<=P.length):NX a w P.length:=by
 have hc:=hE.cc;have h1:=hE.o5.pl;have h2:=hE.len;have h3:=hs.1;refine ⟨m,P,?_,λ X=>(hE.kz X).trans (hs.kz X),rfl⟩;rcases z9 with h|h
 ·obtain rfl:c=w:=by omega
  exact hE.o5
 ·exact hE.o5.wide (by omega) hc
theorem AfX (N:e8 L) (q q':Bool) (a:List (List AQ)) (n WW k:Nat) {K:Nat} (ah:a.length=n) (z8 : ∀ r∈a,r.length=WW) (hn:1<=n/\n<=52) (hW:WW<=104) (bj:CD k a) (eo : ∀ r∈vM a,∀ j,Bt K (AZ (r.take j))) (wz:k<=K) (ur:K<=1000000000000) {kk:List It} {Q:Tm->Mem->Prop}
  (ae:AA L kk ([(5,.row 231019 0 3 0 n),(4,.row 231016 0 1 0 n)]++[(1000+13,.sl q (BO q' a)),(1000+11,.bool false),(1000+0,.sl q (BO q' a))]) ([(231016,231016,.mx (A8 3 eQ (whole (vM a)))),(231019,231019,.rw 3 (((vM a).map AZ).map eQ))]++[]) Q) :
  AA L (.lp FK.l1 :: .g8 0::kk) ([(22,.int .i64 0),(21,.int .i64 n),(20,.sl q (BO q' a)),(5,.row 231019 0 3 0 n),(4,.row 231016 0 1 0 n)]++[(1000+13,.sl q (BO q' a)),(1000+11,.bool false),(1000+0,.sl q (BO q' a))]) ([(231016,231016,.mx (List.replicate n none)),(231019,231019,.rw 3 ((List.replicate n none).map eO))]++[]) Q:=by
 have hI:=KM N.toa8 1 (by omega);refine KB (l:=[_,_]) rfl ?_;refine D0 (λ i=>n-i) (λ(i:Nat)=>i<=n) (λ i=>[(22,.int .i64 i)]) (λ i=>[(231016,231016,.mx (mz (whole (vM a)) n i)),(231019,231019,.rw 3 ((DG (((vM a).map AZ).take i) n).map eO))]) [] [] 0 (by first|exact (by (conv=>whnf);exact ⟨rfl,rfl,rfl⟩)|(rw[<-P5 (whole (vM a)),List.take_zero,<-I7];exact (by (conv=>whnf);exact ⟨rfl,rfl,rfl⟩))) (by omega) ?_;intro i p1 ih;have Dh:=P3 (Q:=whole (vM a)) p1;by_cases hi:i<n
 ·obtain ⟨r,hr⟩ : ∃ r,a[i]? = some r:=⟨_,zE (by omega)⟩
  have mn:a[(i:Int).toNat]? = some r:=hr;have cn:=z8 r (zM hr);have fe:=bj r (zM hr);obtain ⟨rv,kv⟩ : ∃ rv,r.map AQ.v=rv:=⟨_,rfl⟩;have rh:(vM a)[i]? = some rv:=by rw[<-kv,vM,List.getElem?_map,hr];rfl
  have qw:rv.length=WW:=by rw[<-kv,List.length_map];exact cn
  have v8 : ∀ (j:Nat) (x:AQ),r[j]? = some x->rv[j]? = some x.v:=λ j x hx=>by rw[<-kv,List.getElem?_map,hx];rfl
  have m4:=P4 (Q:=whole (vM a)) (i:=i) (n:=n) (row:=rv.map (· * AZ rv)) (by rw[whole,List.getElem?_map,rh];rfl) hi;have mo:((vM a).map AZ)[i]? = some (AZ rv):=by rw[List.getElem?_map,rh];rfl
  generalize mz (whole (vM a)) n i=R0 at *;have tf : ∀ j,Bt K (AZ (rv.take j)):=eo rv (zM rh);have gq:=tf WW;rw[zT (by omega)]at gq;(repeat' ((first|(apply AG<;>intro hc<;>try omega)|apply AW|(refine BD (by assumption) ?_ rfl ?_;omega)|apply AC|refine AE (hI) ?_)<;>conv=>whnf))
  try cases hr.symm.trans hv
  refine GW (λ j _=>WW-j) (λ(j:Nat) (s:Rat)=>j<=WW/\s=AZ (rv.take j)) (λ j _=>[(30,.int .i64 j)]) (λ_ s=>[(231008,231008,.bx (eQ s))]) 0 ((1:Int):Rat) ⟨by omega,by rw[List.take_zero];rfl⟩ ?_;intro j s ⟨p2,p3⟩ jh;by_cases hj:j<WW
  ·obtain ⟨x,hx⟩ : ∃ x,r[j]? = some x:=⟨_,zE (by omega)⟩
   have mw:r[(j:Int).toNat]? = some x:=hx;have mr:Bt K s:=by rw[p3];exact tf j
   have sx:=fe x (zM hx);have bx:=sx.1;have ck:=YH N.toa8 mr sx.2 (by omega) (Nat.le_refl _);have fi:=VC N.toa8 true mr (mr.mul bx).2 (by omega) (by omega);have uy:AZ (rv.take (j+1))=s*(((s*x.v).den:Nat):Rat):=by rw[G7 (v8 j x hx),WA,<-p3];rfl
   (repeat' ((first|(apply AG<;>intro hc<;>try omega)|(apply A0;omega)|(refine BD (by assumption) ?_ rfl ?_;omega)|refine HN rfl ?_|apply AC|refine AE (ck) ?_|refine AE (fi) ?_)<;>conv=>whnf))
   exact BL [] (by (conv=>whnf);exact ⟨rfl,rfl,rfl⟩) (jh (j+1) _ (by omega) ⟨by omega,uy.symm⟩)
  have ej:j=WW:=by omega
  clear jh;rw[zT (by omega)]at p3;subst p3;(repeat' ((first|(apply AG<;>intro hc<;>try omega)|apply AW|apply AC)<;>conv=>whnf))
  rw[cn];refine ER (enc:=eO) none WW rfl (by omega) (by omega) ?_;(conv=>whnf)
  (repeat' ((first|(apply AU;omega)|fail)<;>conv=>whnf))
  refine AU (by simp) ?_;refine K5 (i:=i) (by omega) (by omega) ?_;(conv=>whnf)
  (repeat' (apply AW<;>conv=>whnf))
  refine D0 (λ j=>WW-j) (λ(j:Nat)=>j<=WW) (λ j=>[(53,.int .i64 j)]) (λ j=>[(231016,231016,.mx (R0.set i (some (3,(DG ((rv.map (· * AZ rv)).take j) WW).map eO))))]) [] [] 0 (by first|exact (by (conv=>whnf);exact ⟨rfl,rfl,rfl⟩)|(rw[List.take_zero,<-I7];exact (by (conv=>whnf);exact ⟨rfl,rfl,rfl⟩))) (by omega) ?_;intro j r2 jh;have ka:((rv.map (· * AZ rv)).take j).length=j:=by rw[List.length_take,List.length_map];omega
  have Ax:=H6 (l:=(rv.map (· * AZ rv)).take j) (m:=WW) (by omega);by_cases hj:j<WW
  ·obtain ⟨x,hx⟩ : ∃ x,r[j]? = some x:=⟨_,zE (by omega)⟩
   have mw:r[(j:Int).toNat]? = some x:=hx;have sx:=fe x (zM hx);have ck:=YG N.toa8 sx.2 gq (Nat.le_refl _) (by omega);have hs:=I8 (l:=(rv.map (· * AZ rv)).take j) (m:=WW) (x:=x.v*AZ rv) (by omega);rw[ka,<-G7 (show (rv.map (· * AZ rv))[j]? = some (x.v*AZ rv) by rw[List.getElem?_map,v8 j x hx];rfl)]at hs;generalize DG ((rv.map (· * AZ rv)).take j) WW=W0 at *;(repeat' ((first|(apply AG<;>intro hc<;>try omega)|(apply AU;omega)|(refine BD (by assumption) ?_ rfl ?_;omega)|apply AC)<;>conv=>whnf))
   refine I2 (by omega) (by omega) ?_;(conv=>whnf)
   (repeat' (refine AE (ck) ?_<;>conv=>whnf))
   refine AU (by rw[List.length_map];omega) ?_;(conv=>whnf)
   skip
   refine GM (by omega) (by omega) ?_;(conv=>whnf)
   refine FJ (enc:=eO) (some (x.v*AZ rv)) rfl (λ e=>by cases e<;>rfl) (by omega) ?_;(conv=>whnf)
   rw[hs];refine KF (by omega) (by rw[List.length_map,List.length_map,<-hs,List.length_set]) ?_;(conv=>whnf)
   (repeat' ((first|(apply A0;omega)|fail)<;>conv=>whnf))
   exact BR [] (jh (j+1) (by omega) (by omega))
  have ej:j=WW:=by omega
  clear jh;rw[zT (by rw[List.length_map];omega),I6 (by rw[List.length_map];exact qw),m4];have mb:(((vM a).map AZ).take i).length=i:=by rw[List.length_take,List.length_map,vM,List.length_map];omega
  have Ir:=H6 (l:=((vM a).map AZ).take i) (m:=n) (by omega);have jc:=I8 (l:=((vM a).map AZ).take i) (m:=n) (x:=AZ rv) (by omega);rw[mb,<-G7 mo]at jc;generalize DG (((vM a).map AZ).take i) n=W1 at *;(repeat' ((first|(apply AG<;>intro hc<;>try omega)|(apply AU;omega)|apply AC)<;>conv=>whnf))
  refine FJ (enc:=eO) (some (AZ rv)) rfl (λ e=>by cases e<;>rfl) (by omega) ?_;(conv=>whnf)
  rw[jc];(repeat' ((first|(apply A0;omega)|fail)<;>conv=>whnf))
  exact BR [] (ih (i+1) (by omega) (by omega))
 have ei:i=n:=by omega
 clear ih;rw[ei,P2 (by simp [whole,vM,ah]),zT (by rw[List.length_map,vM,List.length_map];omega),I6 (by rw[List.length_map,vM,List.length_map];exact ah)];(repeat' ((first|(apply AG<;>intro hc<;>try omega)|apply AC)<;>conv=>whnf))
 exact BL [] (by (conv=>whnf);exact ⟨rfl,rfl,rfl⟩) ae
theorem AfW (N:e8 L) (q q':Bool) (a:List (List AQ)) (r0:List AQ) {m0 m1:List (List Rat)} {n cw WW K0 c:Nat} {P:List Nat} {o:Bool} {l:Rat} {rp:List Rat} (sc:List Rat) (db:m0.length=n) (hn:1<=n/\n<=52) (hW:cw<=WW) (ta:WW<=104) (nb:1<=K0) (hB:6^n*K0<=1000000000000) (hP:P.length<n) (ft:c<cw) (hS:HX m0 K0 WW cw P c o l rp m1 (P.length+1)) {kk:List It} {Q:Tm->Mem->Prop}
  (ae : ∀ m2,HX m0 K0 WW cw P c o l rp m2 n->AA L kk ([(9,.bool o),(8,.int .i64 c),(7,.int .i64 (P.length:Nat)),(10,.ptr 233010 0 0 0),(5,.ptr 233005 0 0 0),(0,.row 231016 0 1 0 n),(0+1,.int .i64 cw)]++[(1000+22,.int .i64 cw),(1000+21,.sl q' (r0.map eW)),(1000+20,.w6 [.sl q' (r0.map eW)]),(1000+19,.sl q (BO q' a)),(1000+18,.row 231016 0 1 0 n),(1000+4,.row 231016 0 1 0 n),(1000+0,.sl q (BO q' a))]) ([(231016,231016,.mx (A8 3 eQ m2)),(233010,233010,.bx (eQ l)),(233005,233005,.bx [.bool false,.nil,.nil])]++[(231019,231019,.rw 3 (sc.map eQ))]) Q) :
  AA L (.lp G3.l4 :: .g8 6::kk) ([(12,.int .i64 ((P.length+1:Nat):Int)),(9,.bool o),(8,.int .i64 c),(7,.int .i64 (P.length:Nat)),(10,.ptr 233010 0 0 0),(5,.ptr 233005 0 0 0),(0,.row 231016 0 1 0 n),(0+1,.int .i64 cw)]++[(1000+22,.int .i64 cw),(1000+21,.sl q' (r0.map eW)),(1000+20,.w6 [.sl q' (r0.map eW)]),(1000+19,.sl q (BO q' a)),(1000+18,.row 231016 0 1 0 n),(1000+4,.row 231016 0 1 0 n),(1000+0,.sl q (BO q' a))]) ([(231016,231016,.mx (A8 3 eQ m1)),(233010,233010,.bx (eQ l)),(233005,233005,.bx [.bool false,.nil,.nil])]++[(231019,231019,.rw 3 (sc.map eQ))]) Q:=by
 refine KB (l:=[_,_]) rfl ?_;refine GW (λ_ i=>n-i) (λ(m:List (List Rat)) (i:Nat)=>HX m0 K0 WW cw P c o l rp m i/\P.length+1<=i/\i<=n) (λ_ i=>[(12,.int .i64 i)]) (λ m _=>[(231016,231016,.mx (A8 3 eQ m))]) m1 (P.length+1) ⟨hS,by omega,by omega⟩ ?_;clear hS;intro m2 i ⟨hS,j1,j2⟩ sh;have kp:=hS.len;rw[db]at kp;by_cases hj:i<n
 ·obtain ⟨rq,eg⟩ : ∃ r,m2[i]? = some r:=⟨_,zE (by omega)⟩
  have br:=hS.ht;have oh:=hS.o5.lr rq (zM eg);have ct:=hS.o5.lr rp (zM br);(repeat' ((first|(apply AG<;>intro hc<;>try omega)|(apply AU;omega)|(refine EK ?_ (λ r hr => ?_);omega)|apply AC)<;>conv=>whnf))
  rename_i rA Ha;cases eg.symm.trans Ha;cases br.symm.trans hr;rw[show 0+((i:Nat):Int).toNat=i by omega,show 0+((P.length:Nat):Int).toNat=P.length by omega,show (List.map eQ rq).length=WW by rw[List.length_map];exact oh,show (List.map eQ rp).length=WW by rw[List.length_map];exact ct];have gm:rq[c]? = some (rq.getD c 0):=GH (by omega);refine E2 1000 N.IA rfl rfl ?_;have eb:rp[c]? = some (rp.getD c 0):=GH (by omega);have xj:=hS.step (by omega) eg;have u9:(comb (rp.getD c 0) (rq.getD c 0) l rq rp).length=WW:=by rw[U0 (by omega)];exact oh
  have Fx:=λ j=>UZ (p:=rp.getD c 0) (f:=rq.getD c 0) (l:=l) (r:=rq) (t:=rp) (by omega) j
  have gb:=λ j (h:j<c)=>hS.o5.zr i rq (by omega) eg j h
  have tj:=λ j (h:j<c)=>hS.o5.zr P.length rp (Nat.le_refl _) br j h
  have Aq:=hS.hi i rq (Nat.le_refl i) eg;have Ap:=hS.bt;have gy:=hS.bl;have da:=hS.l0;have js:=Ap.at eb;have jt:=Aq.at gm;generalize pj:rp.getD c 0=pv at *;generalize Pj:rq.getD c 0=fv at *;generalize lk:comb pv fv l rq rp=cb at *;have og:cb.take c++rq.drop c=rq:=fI (by omega) λ j hj=>⟨by rw[Fx,gb j hj,tj j hj,Rat.zero_mul,Rat.zero_mul,Rat.sub_eq_add_neg,Rat.neg_zero,Rat.add_zero,Rat.div_def,Rat.zero_mul],gb j hj⟩
  have qg:=I9 (z:=3) eg;have Am:=I9 (z:=3) br;have Fh:(A8 3 eQ m2).length=n:=by simp only[A8,List.length_map];omega
  have yh:(A8 3 eQ m2).set i (some (3,cb.map eQ))=A8 3 eQ (m2.set i cb):=by simp only[A8,List.map_set]
  generalize A8 3 eQ m2=R2 at *;have pc:R2.set i (some (3,rq.map eQ))=R2:=R3 qg;(repeat' ((first|(apply AU;omega)|apply AC)<;>conv=>whnf))
  refine KE Am ?_;(conv=>whnf)
  (repeat' ((first|(apply AU;omega)|(refine DQ ?_ (λ_=>rfl) (λ v hv => ?_);omega))<;>conv=>whnf))
  cases eb.symm.trans hv;skip
  refine KE qg ?_;(conv=>whnf)
  (repeat' ((first|(refine DQ ?_ (λ_=>rfl) (λ v hv => ?_);omega)|fail)<;>conv=>whnf))
  cases gm.symm.trans hv;skip
  have Py:=Nat.le_trans (ZL nb P.length) (JX hB (show P.length+1<=n by omega));generalize 6^P.length*K0=BB at *;refine D0 (λ j=>WW-j) (λ(j:Nat)=>c<=j/\j<=WW) (λ j=>[(10,.int .i64 j)]) (λ j=>[(231016,231016,.mx (R2.set i (some (3,(cb.take j++rq.drop j).map eQ))))]) [] [] c (by first|exact (by (conv=>whnf);exact ⟨rfl,rfl,rfl⟩)|(rw[og,pc];exact (by (conv=>whnf);exact ⟨rfl,rfl,rfl⟩))) ⟨by omega,by omega⟩ ?_;intro j ⟨k1,k2⟩ jh;have bb:(cb.take j++rq.drop j).length=WW:=by rw[List.length_append,List.length_take,List.length_drop];omega
  by_cases Po:j<WW
  ·obtain ⟨x,hx⟩ : ∃ x,rq[j]? = some x:=⟨_,zE (by omega)⟩
   obtain ⟨y,hy⟩ : ∃ y,rp[j]? = some y:=⟨_,zE (by omega)⟩;have uv:cb[j]? = some ((x*pv-y*fv)/l):=by rw[<-lk];exact X0 hx hy
   have zi:=fG (a:=cb) (by omega) hx;have fc:=fH (b:=rq) (by omega) uv;have bx:=Aq.at hx;have si:=Ap.at hy
   have ck:=KL N.toa8 bx js (by omega) (by omega);have fi:=KL N.toa8 si jt (by omega) (by omega)
   have yx:=YL N.toaz (bx.mul js) (si.mul jt) (by omega) (by omega);have Ai:=Q9 N.toa8 ((bx.mul js).rz (si.mul jt)) gy (by omega) (by omega) da;have wk:(R2.set i (some (3,(cb.take j++rq.drop j).map eQ)))[P.length]? = some (some (3,rp.map eQ)):=by rw[List.getElem?_set,if_neg (by omega)];exact Am
   generalize cb.take j++rq.drop j=cm at *;(repeat' ((first|(apply AG<;>intro hc<;>try omega)|(apply AU;omega)|apply AC)<;>conv=>whnf))
   refine GM rfl (by omega) ?_;(conv=>whnf)
   (repeat' ((first|(refine DQ ?_ (λ_=>rfl) (λ v hv => ?_);omega)|fail)<;>conv=>whnf))
   cases zi.symm.trans hv;(repeat' ((first|(apply AU;omega)|refine AE (ck) ?_)<;>conv=>whnf))
   refine KE wk ?_;(conv=>whnf)
   (repeat' ((first|(refine DQ ?_ (λ_=>rfl) (λ v hv => ?_);omega)|fail)<;>conv=>whnf))
   cases hy.symm.trans hv;(repeat' ((first|refine AE (fi) ?_|refine AE (yx) ?_)<;>conv=>whnf))
   (repeat' ((first|(apply AU;omega)|refine AE (Ai) ?_)<;>conv=>whnf))
   refine GM rfl (by omega) ?_;(conv=>whnf)
   refine FJ (enc:=eQ) ((x*pv-y*fv)/l) rfl (λ_=>rfl) (by omega) ?_;rw[fc];(conv=>whnf)
   refine KF rfl (by rw[List.length_map,List.length_map,<-fc,List.length_set]) ?_;(conv=>whnf)
   (repeat' ((first|(apply A0;omega)|fail)<;>conv=>whnf))
   exact BR [] (jh (j+1) (by omega) ⟨by omega,by omega⟩)
  ·have ej:j=WW:=by omega
   clear jh;rw[zT (by omega),List.drop_of_length_le (by omega),List.append_nil,yh];(repeat' ((first|(apply AG<;>intro hc<;>try omega)|apply AC)<;>conv=>whnf))
   refine ⟨rfl,_,rfl,?_⟩;(conv=>whnf)
   (repeat' ((first|(apply A0;omega)|fail)<;>conv=>whnf))
   exact BR [] (sh (m2.set i cb) (i+1) (by omega) ⟨xj,by omega,by omega⟩)
 ·have ei:i=n:=by omega
  clear sh;rw[ei]at hS;(repeat' ((first|(apply AG<;>intro hc<;>try omega)|apply AC)<;>conv=>whnf))
  exact BL [] (by (conv=>whnf);exact ⟨rfl,rfl,rfl⟩) (ae m2 hS)
theorem Xp (N:bh L) (q q':Bool) (aw:List (List AQ)) (n w k:Nat) (k7:aw.length=n) (j9 : ∀ r∈aw,r.length=w) (hn:1<=n/\n<=52) (hw:1<=w/\w<=52) (hk:1<=k) (cq:CD k aw) (hB:6^n*(3^w*k)<=1000000000000) :
  ∃ r:Nat,Ev L 249 [.sl q (BO q' aw)] (.g9 [.int .i64 r,.int .i64 0])/\NX (vM aw) w r/\r<=n/\r<=w:=by
 obtain ⟨a,v8⟩ : ∃ a,vM aw=a:=⟨_,rfl⟩;rw[v8];have ah:a.length=n:=v8 ▸ F9 k7;have z8 : ∀ r∈a,r.length=w:=v8 ▸ GK j9;have bj:Ms k a:=v8 ▸ cq.ms;suffices h : ∃ v,Ev L 249 [.sl q (BO q' aw)] v /\ ∃ r:Nat,v = .g9 [.int .i64 r,.int .i64 0]/\NX a w r/\r<=n/\r<=w by
  obtain ⟨v,h1,m,rfl,h2⟩:=h;exact ⟨m,h1,h2⟩
 have hV:=PQ N.toe8 q q' aw n w k7 j9 hn hw;obtain ⟨r0,k9⟩ : ∃ r,aw[0]? = some r:=⟨_,zE (by omega)⟩;have ek:aw[(0:Int).toNat]? = some r0:=k9;have da:=j9 r0 (zM k9);have hI:=KM N.toa8 1 (by omega);have ur:3^w*k<=1000000000000:=by simpa using JX hB (Nat.zero_le n)
 have N0:=N.toe8;refine Ev.xE N.JP rfl rfl ?_;(repeat' ((first|apply AC|refine AE (hV) ?_)<;>conv=>whnf))
 have hW:w<=104:=by omega
 have N:e8 L:=N0;refine E2 1000 N.FK rfl rfl ?_;(repeat' ((first|apply AW|apply AC)<;>conv=>whnf))
 unfold C6;refine ⟨⟨by omega,by omega,by simp only[D5];omega,by omega⟩,?_⟩;rw[Int.toNat_natCast];(conv=>whnf)
 (repeat' (apply AW<;>conv=>whnf))
 rw[k7];refine ER (enc:=eO) none n rfl (by omega) (by omega) ?_;(conv=>whnf)
 (repeat' (apply AW<;>conv=>whnf))
 rw[k7];refine BL [] (by (conv=>whnf);exact ⟨rfl,rfl,rfl⟩) (AfX N q q' aw n w k k7 j9 hn hW cq (v8.symm ▸ (SI hk z8 bj)) (SG k w) ur ?_);(repeat' (apply AC<;>conv=>whnf))
 refine ⟨rfl,_,rfl,?_⟩;(conv=>whnf)
 (repeat' ((first|apply AW|(refine BD (by assumption) ?_ rfl ?_;omega))<;>conv=>whnf))
 rw[v8];rw[da];have db:(whole a).length=n:=by simp [whole,ah]
 have qt:=T6 z8;have qp:=SH hk z8 bj;have jx:=iU a;have nb:1<=3^w*k:=Nat.mul_pos (Nat.pow_pos (by omega)) hk;clear ur;generalize whole a=m0 at *;generalize 3^w*k=K0 at *;have ta:=hW;have hW:=Nat.le_refl w;refine FB 1000 N.G3 rfl rfl ?_;(repeat' ((first|apply AC|refine AE (hI) ?_)<;>conv=>whnf))
 refine aN (λ_ P _ _ _=>n-P.length) (λ(m:List (List Rat)) (P:List Nat) (c:Nat) (odd:Bool) (l:Rat)=>EN m0 K0 w w m P c odd l) (λ_ P c odd _=>[(7,.int .i64 (P.length:Nat)),(8,.int .i64 c),(9,.bool odd)]) (λ m _ _ _ l=>[(231016,231016,.mx (A8 3 eQ m)),(233010,233010,.bx (eQ l))]) [] [] m0 [] 0 false ((1:Int):Rat) (by (conv=>whnf);exact ⟨rfl,rfl,rfl⟩) (EN.start qt qp) ?_;intro m P c odd l hE eh;have bb:=hE.len;have tu:=hE.o5.pl;rw[db]at bb;by_cases hP:P.length<n
 ·have Px:=JX hB (show P.length<=n by omega)
  (repeat' ((first|(apply AG<;>intro hc<;>try omega)|apply AC)<;>conv=>whnf))
  refine aP (l:=[_,_]) (λ(m1:List (List Rat)) (c:Nat) (o:Bool)=>EN m0 K0 w w m1 P c o l/\(c<w -> ∃ rp,m1[P.length]? = some rp/\rp.getD c 0≠0)) (λ_ c o=>[(8,.int .i64 c),(9,.bool o)]) (λ m1 _ _=>[(231016,231016,.mx (A8 3 eQ m1))]) [17] rfl ?_ ?_
  ·clear hE bb tu
   intro m1 c Hx ⟨hE,pj⟩;have bb:=hE.len;have tu:=hE.o5.pl;have ax:=hE.cc;rw[db]at bb;by_cases ft:c<w
   ·obtain ⟨rp,Ay,uz⟩:=pj ft
    clear pj;have hS:=hE.Oh ft Ay uz;(repeat' ((first|(apply AG<;>intro hc<;>try omega)|(apply A0;omega)|apply AC)<;>conv=>whnf))
    refine BL [] (by (conv=>whnf);exact ⟨rfl,rfl,rfl⟩) (AfW N q q' aw r0 (a.map AZ) db hn hW ta nb hB hP ft hS λ m2 hS => ?_);have br:=hS.ht;have Hf:=hS.o5.lr rp (zM br);have eb:rp[c]? = some (rp.getD c 0):=GH (by omega);have kp:=hS.len;have ae:=hS.done nb (by omega);have nw:(P++[c]).length=P.length+1:=by simp
    generalize rp.getD c 0=pv at eb ae;clear hS hE uz Ay;(repeat' ((first|(apply AU;omega)|(refine EK ?_ (λ r hr => ?_);omega)|apply AC)<;>conv=>whnf))
    cases br.symm.trans hr;refine AU (by rw[List.length_map];omega) ?_;(conv=>whnf)
    (repeat' ((first|(apply A0;omega)|(refine DQ ?_ (λ_=>rfl) (λ v hv => ?_);omega)|refine EV (by assumption) ?_)<;>conv=>whnf))
    cases eb.symm.trans hv;skip
    rw[show ((P.length:Nat):Int)+1=((P++[c]).length:Nat) by rw[nw];omega];exact BL [] (by (conv=>whnf);exact ⟨rfl,rfl,rfl⟩) (eh m2 (P++[c]) (c+1) _ pv (by rw[nw];omega) ae)
   ·clear eh pj
    (repeat' ((first|(apply AG<;>intro hc<;>try omega)|apply AC)<;>conv=>whnf))
    refine ⟨rfl,?_⟩;(conv=>whnf)
    skip
    have z9:w<=c\/n<=P.length:=Or.inl (by omega);have te:=nI hE jx ah z9;have oz:P.length<=n:=by have:=hE.o5.pl;omega
    have Kb:P.length<=w:=by have:=hE.o5.le;have:=hE.cc;omega
    skip
    refine ⟨.g9 [.int .i64 P.length,.int .i64 0],?_,P.length,rfl,te,oz,Kb⟩;(conv=>whnf)
    exact AY rfl (by simp [A7,CJ])
  ·clear eh
   intro ea;refine D0 (λ c=>w-c) (λ(c:Nat)=>EN m0 K0 w w m P c odd l) (λ c=>[(8,.int .i64 c)]) (λ_=>[]) [17] [] c (by (conv=>whnf);exact ⟨rfl,rfl,rfl⟩) hE ?_;clear hE;intro c hE ch;have ax:=hE.cc;by_cases ft:c<w
   ·(repeat' ((first|(apply AG<;>intro hc<;>try omega)|apply AC)<;>conv=>whnf))
    refine DT (λ i=>n-i) (λ(i:Nat)=>P.length<=i/\i<=n /\ ∀ (q:Nat) (r:List Rat),P.length<=q->q<i->m[q]? = some r->r.getD c 0=0) (λ i=>[(11,.int .i64 i)]) (λ_=>[]) P.length ⟨Nat.le_refl _,by omega,λ q r h1 h2=>absurd h1 (by omega)⟩ ?_;intro i ⟨i1,i2,i3⟩ ih;by_cases hi:i<n
    ·obtain ⟨rp,k9⟩ : ∃ r,m[i]? = some r:=⟨_,zE (by omega)⟩
     have cn:=hE.o5.lr rp (zM k9);have cr:rp[c]? = some (rp.getD c 0):=GH (by omega);have qh:=dG N.toa8 (hE.ms.at k9 _ (zM cr)) (by omega);have hz:=ZX (x:=rp.getD c 0);generalize je:rp.getD c 0=rc at *;generalize fb rc.num=sg at *;by_cases mq:sg=0
     ·(repeat' ((first|(apply AG<;>intro hc<;>try omega)|(apply AU;omega)|(refine EK ?_ (λ r hr => ?_);omega)|apply AC)<;>conv=>whnf))
      cases k9.symm.trans hr;refine AU (by rw[List.length_map];omega) ?_;(conv=>whnf)
      (repeat' ((first|(refine DQ ?_ (λ_=>rfl) (λ v hv => ?_);omega)|refine EV (by assumption) ?_)<;>conv=>whnf))
      cases cr.symm.trans hv;(repeat' ((first|(apply AG<;>intro hc<;>try omega)|(apply A0;omega)|refine AE (qh) ?_)<;>conv=>whnf))
      refine BL [] (by (conv=>whnf);exact ⟨rfl,rfl,rfl⟩) (ih (i+1) (by omega) ⟨by omega,by omega,λ q x h1 h2 hx => ?_⟩);by_cases e:q=i
      ·subst e
       cases k9.symm.trans hx;rw[je];exact hz.1 mq
      ·exact i3 q x h1 (by omega) hx
     ·clear ih ch
      have qu:rc≠0:=λ e=>mq (hz.2 e)
      (repeat' ((first|(apply AG<;>intro hc<;>try omega)|(apply AU;omega)|(refine EK ?_ (λ r hr => ?_);omega)|apply AC)<;>conv=>whnf))
      cases k9.symm.trans hr;refine AU (by rw[List.length_map];omega) ?_;(conv=>whnf)
      (repeat' ((first|(refine DQ ?_ (λ_=>rfl) (λ v hv => ?_);omega)|refine EV (by assumption) ?_)<;>conv=>whnf))
      cases cr.symm.trans hv;(repeat' ((first|(apply AG<;>intro hc<;>try omega)|(apply AU;omega)|(refine EK ?_ (λ r hr => ?_);omega)|refine EV (by assumption) ?_|refine AE (qh) ?_)<;>conv=>whnf))
      ·obtain ⟨t,ti⟩ : ∃ t,m[P.length]? = some t:=⟨_,zE (by omega)⟩
       refine AU ⟨rfl,by simp only[A8,List.length_map];omega⟩ ?_;(conv=>whnf)
       (repeat' ((first|(apply AU;omega)|refine EV (by assumption) ?_)<;>conv=>whnf))
       rw[show 0+((i:Nat):Int).toNat=i by omega,show 0+((P.length:Nat):Int).toNat=P.length by omega];refine AU ⟨rfl,by simp only[A8,List.length_map,List.length_set,List.length_range];omega,aL (by simp only[A8,List.length_map];omega)⟩ ?_;(conv=>whnf)
       skip
       have Fe:=hE.swap k9 ti i1 (Nat.le_refl _) (by omega);have Fj:c<w -> ∃ Bk,((m.set i t).set P.length rp)[P.length]? = some Bk/\Bk.getD c 0≠0:=λ_=>⟨rp,by rw[List.getElem?_set,if_pos rfl,if_pos (by rw[List.length_set];omega)],by rw[je];exact qu⟩
       generalize Pv:(!odd)=ob at *;cases ob;all_goals
        (conv=>whnf)
        skip
        refine NW.go ?_;refine WS (k:=231016) (i:=i) (j:=P.length) rfl (I9 k9) (I9 ti) rfl rfl ?_;rw[fU];exact BL [] (by (conv=>whnf);exact ⟨rfl,rfl,rfl⟩) (ea _ c _ ⟨Fe,Fj⟩)
      ·have ei:i=P.length:=by omega
       exact NW.go (BL [] (by (conv=>whnf);exact ⟨rfl,rfl,rfl⟩) (ea m c odd ⟨hE,λ_=>⟨rp,by rw[<-ei];exact k9,by rw[je];exact qu⟩⟩))
    ·have ei:i=n:=by omega
     clear ih;(repeat' ((first|(apply AG<;>intro hc<;>try omega)|(apply A0;omega)|apply AC)<;>conv=>whnf))
     exact BR [] (ch (c+1) (by omega) (hE.skip ft λ q x h1 hx=>i3 q x h1 (by have:=(zS hx).1;omega) hx))
   ·clear ch
    (repeat' ((first|(apply AG<;>intro hc<;>try omega)|apply AC)<;>conv=>whnf))
    exact NW.go (BL [] (by (conv=>whnf);exact ⟨rfl,rfl,rfl⟩) (ea m c odd ⟨hE,λ h=>absurd h ft⟩))
 ·clear eh
  (repeat' ((first|(apply AG<;>intro hc<;>try omega)|apply AC)<;>conv=>whnf))
  refine ⟨rfl,?_⟩;(conv=>whnf)
  skip
  have z9:w<=c\/n<=P.length:=Or.inr (by omega);have te:=nI hE jx ah z9;have oz:P.length<=n:=by have:=hE.o5.pl;omega
  have Kb:P.length<=w:=by have:=hE.o5.le;have:=hE.cc;omega
  skip
  refine ⟨.g9 [.int .i64 P.length,.int .i64 0],?_,P.length,rfl,te,oz,Kb⟩;(conv=>whnf)
  exact AY rfl (by simp [A7,CJ])
end Go.g6
