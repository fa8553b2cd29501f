/-
  Whatever the abstract machine says of an operation, the model does.
-/
import Derived.Test.YtplhdlbnneoobaaGreatB2
import Derived.Orders
import Derived.Test.YtplhdlbnneoobaaGreatB1
set_option linter.unusedSimpArgs false
set_option linter.unusedVariables false
set_option linter.unnecessarySimpa false
namespace Go.c4
open Go.RowKit
section
variable {B:Nat} {S:Nat->Prop} {w0:World} {m:M}
variable {P:Program} {num:Nat->Nat} {o:Oper} {a:Act} {ρ:AM->AV} {C:Cl} {b9:List Nat}
theorem xI (hm:BI B S w0 m) (hs:CD B S m ρ a.eval) {mx:Bool} {m8:List AM} (h:A2 P num o.op (.mm mx m8)=true) {v r:AV} {l:List AV} (hx:m8.map ρ=v::l) (hv:JB mx v l=some r):CF B S w0 P o a m (.val r):=by
 by_cases hi : ∃ k n,v = .int k n
 ·exact xH hm hs h hx hv hi
 ·cases l with
  | cons u q =>
   simp only[JB]at hv;exfalso;cases v<;>first|(exact hi ⟨_,_,rfl⟩)|(simp [NT]at hv)
  | nil =>
   simp only[JB,Option.some.injEq]at hv;subst hv;obtain ⟨xs,ts,j8,he⟩:=kR h;cases m8 with
   | nil=>simp at hx
   | cons y yr =>
    simp only[List.map_cons,List.cons.injEq,List.map_eq_nil_iff]at hx;obtain ⟨rfl,rfl⟩:=hx;obtain ⟨xl⟩:=xs;cases xl with
    | nil=>simp [DX]at he
    | cons x xr =>
     simp only[DX,Bool.and_eq_true]at he;cases xr with
     | cons=>simp [DX]at he
     | nil =>
      refine DS hm (u:=a.eval x) ?_ (hs x y he.1);cases mx<;>simp [execOp,j8,resolve,invoke,builtin,Builtin.min_,Builtin.max_]
theorem jZ (o:AH) (l:List Nat) (s t:Nat) (b:DJ) (h:(o.l9 l).get s t=some b):o.get s t=some b:=by
 induction l with
 | nil=>exact h
 | cons x r ih =>
  unfold AH.get AH.l9 at h;by_cases hs:s=x
  ·simp [hs]at h
  ·simp only[if_neg hs]at h
   exact ih h
theorem Nc {o:AH} {l:List Nat} {s t i j n:Nat} {cs:List AV} (h:(o.l9 l).kb s t i j n=some cs):o.kb s t i j n=some cs:=by
 unfold AH.kb at *;cases hg:(o.l9 l).get s t with
 | none=>simp [hg]at h
 | some b =>
  rw[jZ o l s t b hg];simpa [hg] using h
theorem yG {o:AH} {l:List Nat} {v:AV} {es:List (List AV)} (h:DT (o.l9 l) v=some es):DT o v=some es:=by
 cases v with
 | z9 v=>cases v<;>exact h
 | row s t z off len =>
  simp only[DT]at h ⊢;cases hg:(o.l9 l).get s t with
  | none=>simp [hg]at h
  | some b =>
   rw[jZ o l s t b hg];simpa [hg] using h
 | _=>exact h
theorem Q5 {α β:Type} {f g:α->Option β} (Ht : ∀ x y,f x=some y->g x=some y) : ∀ {l:List α} {l':List β},l.mapM f=some l'->l.mapM g=some l'
 | [],l',h=>by simpa using h
 | x::r,l',h=>by
  simp only[List.mapM_cons,Option.bind_eq_bind,Option.pure_def]at h ⊢;cases hx:f x with
  | none=>simp [hx]at h
  | some y =>
   cases hr:r.mapM f with
   | none=>simp [hx,hr]at h
   | some r' =>
    simp [hx,hr]at h;simp [Ht x y hx,Q5 Ht hr,h]
theorem bP (o:AH) (l:List Nat) (b:Bool) : ∀ (d:Nat) (c c':AV),snap (o.l9 l) b d c=some c'->snap o b d c=some c'
 | 0,c,c',h=>by cases c<;>simp_all [snap]
 | d+1,c,c',h=>by
  cases c<;>first|(simp_all [snap];done)|skip
  rename_i s t z off len;simp only[snap]at h ⊢;cases he:DT (o.l9 l) (.row s t z off len) with
  | none=>simp [he]at h
  | some es =>
   simp only[he]at h;rw[yG he];simp only[Option.map_eq_some_iff]at h ⊢;obtain ⟨es',h1,h2⟩:=h;exact ⟨es',Q5 (λ x y hx=>Q5 (bP o l b d) hx) h1,h2⟩
theorem oC (o:AH) (l:List Nat) (b:Bool) (c c':AV) (h:DB (o.l9 l) b c=some c'):DB o b c=some c':=by
 cases c<;>first|exact bP o l b 6 _ _ h|skip
 simp only[DB,Option.map_eq_some_iff]at h ⊢;obtain ⟨cs,h1,h2⟩:=h;exact ⟨cs,Q5 (bP o l b 6) h1,h2⟩
theorem Sd (o:AH) (l:List Nat) (b:Bool) (c c':AV) (h:M6 (o.l9 l) b c=some c'):M6 o b c=some c':=by
 rcases Classical.em (c = .nil) with rfl|hc
 ·exact h
 ·have e : ∀ o:AH,M6 o b c=DB o b c:=λ o=>by cases c<;>first|rfl|exact (hc rfl).elim
  rw[e]at h ⊢;exact oC o l b _ _ h
theorem Nr {o:AH} {l:List Nat} {b:Bool} {xs vs:List AV} (h:xs.mapM (M6 (o.l9 l) b)=some vs):xs.mapM (M6 o b)=some vs:=Q5 (Sd o l b) h
theorem Np {o:AH} {l:List Nat} {b:Bool} {xs vs:List AV} (h:xs.mapM (DB (o.l9 l) b)=some vs):xs.mapM (DB o b)=some vs:=Q5 (oC o l b) h
theorem Sp {own l8:AH} {s t i j:Nat} {vs:List AV} (h:own.gi s t i j vs=some l8):own.put s (l8 s)=l8:=by
 unfold AH.gi at h;cases hg:own.get s t with
 | none=>simp [hg]at h
 | some b =>
  simp only[hg]at h;cases he:b.es[i]? with
  | none=>simp [he]at h
  | some cs =>
   simp only[he]at h;split at h
   ·obtain rfl:=Option.some.inj h
    rw[AH.j4]
   ·cases h
theorem yF (hC:G0 P num C) (hm:BI B S w0 m) (hs:CD B S m ρ a.eval) {vt:DL} (g8:A2 P num o.op vt=true) {E:BW} (h:c8 C b9 ρ m.own vt=some E):CF B S w0 P o a m E:=by
 cases vt with
 | b7 x=>simp only[c8,Option.some.injEq]at h;subst h;exact xJ hm hs g8
 | w9 s z=>simp only[c8,Option.some.injEq]at h;subst h;exact xQ hm g8
 | pick c x y =>
  simp only[c8]at h;split at h
  ·rename_i hc;simp only[Option.some.injEq]at h;subst h;exact gJ hm hs g8 hc
  ·rename_i hc;simp only[Option.some.injEq]at h;subst h;exact gJ hm hs g8 hc
  ·cases h
 | bin f x y =>
  simp only[c8]at h;split at h
  ·rename_i k n k' n' hx hy
   simp only[Option.map_eq_some_iff]at h;obtain ⟨v,hv,rfl⟩:=h;exact wF hm hs g8 hx hy hv
  ·cases h
 | mv ne n x y =>
  simp only[c8]at h;split at h
  ·rename_i cs ds hx hy
   split at h
   ·rename_i a b ha hb
    split at h
    ·rename_i hn
     simp only[Option.some.injEq]at h;subst h;exact vZ hm hs g8 hx hy ha hb hn
    ·cases h
   ·cases h
  ·cases h
 | beq ne x y =>
  simp only[c8]at h;split at h
  ·rename_i b b' hx hy
   simp only[Option.some.injEq]at h;subst h;exact wE hm hs g8 hx hy
  ·cases h
 | un f x =>
  simp only[c8,Option.map_eq_some_iff]at h;obtain ⟨v,hv,rfl⟩:=h;exact xP hm hs g8 hv
 | conv k x =>
  simp only[c8]at h;split at h
  ·rename_i k' n hx
   simp only[Option.some.injEq]at h;subst h;exact wP hm hs g8 hx
  ·cases h
 | box s x =>
  simp only[c8]at h;split at h
  ·rename_i cs fq
   simp only[Option.some.injEq]at h;subst h;exact wG hm hs g8 fq
  ·cases h
 | alloc s z=>simp only[c8,Option.some.injEq]at h;subst h;exact wA hm g8
 | build z ps =>
  simp only[c8,Option.map_eq_some_iff]at h;obtain ⟨cs,fq,rfl⟩:=h;exact wI hm hs g8 fq
 | c9 s a6 ps =>
  simp only[c8]at h;split at h
  ·rename_i es eg
   split at h
   ·rename_i hz
    simp only[Option.some.injEq]at h;subst h;exact wH hm hs g8 eg hz
   ·cases h
  ·cases h
 | a5 x off =>
  simp only[c8]at h;split at h
  ·rename_i s t i j hx
   simp only[Option.some.injEq]at h;subst h;exact wU hm hs g8 hx
  ·rename_i cs hx
   simp only[Option.some.injEq]at h;subst h;exact wT hm hs g8 hx
  ·cases h
 | ja x off n agg =>
  simp only[c8]at h;split at h
  ·rename_i cs hx
   split at h
   ·rename_i ds hp
    simp only[Option.map_eq_some_iff]at h;obtain ⟨v,hv,rfl⟩:=h;exact wV hm hs g8 hx hp hv
   ·cases h
  ·cases h
 | a9 arr a6 x i =>
  simp only[c8]at h;split at h
  ·rename_i k n hi
   split at h
   ·rename_i len s t i' j hx
    split at h
    ·rename_i hn
     simp only[Option.some.injEq]at h;subst h;exact wW hm hs g8 hi hx hn.1 hn.2
    ·cases h
   ·rename_i len cs hx
    split at h
    ·rename_i hn
     simp only[Option.some.injEq]at h;subst h;exact wX hm hs g8 hi hx hn.1 hn.2
    ·cases h
   ·rename_i s t z off len hx
    split at h
    ·rename_i hn
     simp only[Option.some.injEq]at h;subst h;exact wY hm hs g8 hi hx hn.1 hn.2.1 hn.2.2
    ·cases h
   ·rename_i l es hx
    split at h
    ·rename_i h0
     split at h
     ·rename_i cs fq
      split at h
      ·rename_i hz
       simp only[Option.some.injEq]at h;subst h;exact wZ hm hs g8 hi hx h0 fq hz
      ·cases h
     ·cases h
    ·cases h
   ·cases h
  ·cases h
 | idx len a6 agg x i =>
  simp only[c8]at h;split at h
  ·rename_i k n cs hi hx
   split at h
   ·rename_i hn
    split at h
    ·rename_i ds hp
     simp only[Option.map_eq_some_iff]at h;obtain ⟨v,hv,rfl⟩:=h;exact xA hm hs g8 hi hx hn.1 hn.2 hp hv
    ·cases h
   ·cases h
  ·cases h
 | ld agg n x =>
  simp only[c8]at h;split at h
  ·rename_i s t i j hx
   split at h
   ·rename_i cs fq
    simp only[Option.map_eq_some_iff]at h;obtain ⟨v,hv,rfl⟩:=h;exact xC hm hs g8 hx (Nc fq) hv
   ·cases h
  ·rename_i cs hx
   split at h
   ·rename_i ds hp
    simp only[Option.map_eq_some_iff]at h;obtain ⟨v,hv,rfl⟩:=h;exact xB hm hs g8 hx hp hv
   ·cases h
  ·cases h
 | st n x v =>
  simp only[c8]at h;split at h
  ·rename_i s t i j vs hx et
   split at h
   ·rename_i hn
    simp only[Option.map_eq_some_iff]at h;obtain ⟨l8,ho,rfl⟩:=h;exact gM hm hs g8 hx et hn ho
   ·cases h
  ·cases h
 | mk s a6 bytes zero l c =>
  simp only[c8]at h;split at h
  ·rename_i kl a' kc b' hl hc
   split at h
   ·rename_i hn
    simp only[Option.some.injEq]at h;subst h;exact xF hm hs g8 hl hc hn.1 hn.2.1 hn.2.2.1 hn.2.2.2.1 hn.2.2.2.2
   ·cases h
  ·cases h
 | dc a6 x lo hi =>
  simp only[c8]at h;have Gv : ∀ (d:Nat) (y:Option AM) (q:Nat),(match y with|none=>some d|some o=>match ρ o with | .int _ n=>if 0<=n/\n<=d then some n.toNat else none|_=>none)=some q -> ∃ n:Int,GP ρ d y=some n/\0<=n/\n<=d/\q=n.toNat:=λ d y q hq=>by
   cases y with
   | none=>simp only[Option.some.injEq]at hq;subst hq;exact ⟨d,rfl,by omega,by omega,by simp⟩
   | some y =>
    simp only at hq;cases hy:ρ y with
    | int k n =>
     simp only[hy]at hq;split at hq
     ·rename_i hn
      simp only[Option.some.injEq]at hq;subst hq;exact ⟨n,by simp [GP,hy],hn.1,hn.2,rfl⟩
     ·cases hq
    | _=>simp [hy]at hq
  have yg : ∀ (y:Option AM) (q:Nat),(match y with|none=>some 0|some o=>match ρ o with | .int _ n=>if 0<=n then some n.toNat else none|_=>none)=some q -> ∃ n:Int,GP ρ 0 y=some n/\0<=n/\q=n.toNat:=λ y q hq=>by
   cases y with
   | none=>simp only[Option.some.injEq]at hq;subst hq;exact ⟨0,rfl,by omega,by simp⟩
   | some y =>
    simp only at hq;cases hy:ρ y with
    | int k n =>
     simp only[hy]at hq;split at hq
     ·rename_i hn
      simp only[Option.some.injEq]at hq;subst hq;exact ⟨n,by simp [GP,hy],hn,rfl⟩
     ·cases hq
    | _=>simp [hy]at hq
  have yh : ∀ (y:Option AM) (q:Nat),(match y with|none=>some 0|some o=>match ρ o with | .int _ n=>if n=0 then some 0 else none|_=>none)=some q->GP ρ 0 y=some 0:=λ y q hq=>by
   cases y with
   | none=>rfl
   | some y =>
    simp only at hq;cases hy:ρ y with
    | int k n =>
     simp only[hy]at hq;split at hq
     ·rename_i hn
      subst hn;simp [GP,hy]
     ·cases hq
    | _=>simp [hy]at hq
  split at h
  ·rename_i l es hx
   split at h
   ·rename_i q1 q2 h1 h2
    split at h
    ·rename_i hq
     simp only[Option.some.injEq]at h;subst h;obtain ⟨n1,b1,c1,rfl⟩:=yg _ _ h1;obtain ⟨n2,b2,c2,c3,rfl⟩:=Gv _ _ _ h2;exact xO hm hs g8 hx b1 b2 c1 (by omega) c3 hq.2
    ·cases h
   ·cases h
  ·rename_i hx
   split at h
   ·rename_i q1 q2 h1 h2
    simp only[Option.some.injEq]at h;subst h;exact xM hm hs g8 hx (yh _ _ h1) (yh _ _ h2)
   ·cases h
  ·rename_i s t z off len hx
   split at h
   ·rename_i q1 q2 h1 h2
    split at h
    ·rename_i hq
     simp only[Option.some.injEq]at h;subst h;obtain ⟨n1,b1,c1,rfl⟩:=yg _ _ h1;obtain ⟨n2,b2,c2,c3,rfl⟩:=Gv _ _ _ h2;exact xN hm hs g8 hx b1 b2 c1 (by omega) c3 hq.2
    ·cases h
   ·cases h
  ·cases h
 | ext x i =>
  simp only[c8]at h;split at h
  ·rename_i vs hx
   simp only[Option.map_eq_some_iff]at h;obtain ⟨v,hv,rfl⟩:=h;exact wS hm hs g8 hx hv
  ·cases h
 | len x =>
  simp only[c8]at h;split at h
  ·rename_i n hn
   simp only[Option.some.injEq]at h;subst h;exact xD hm hs g8 hn
  ·cases h
 | mm mx xs =>
  simp only[c8]at h;split at h
  ·cases h
  ·rename_i v r hx
   simp only[Option.map_eq_some_iff]at h;obtain ⟨q,hq,rfl⟩:=h;exact xI hm hs g8 hx hq
 | app s a6 bytes x y =>
  simp only[c8]at h;split at h
  ·rename_i ys mq
   split at h
   ·rename_i hz
    split at h
    ·rename_i s' t z len hx
     split at h
     ·rename_i b hb
      split at h
      ·rename_i hn
       obtain ⟨n1,rfl,n3,n4,n5⟩:=hn;simp only[Option.some.injEq]at h;subst h;exact gG hm hs g8 mq hz hx hb n1 n3 n4 n5
      ·cases h
     ·cases h
    ·rename_i hx
     split at h
     ·rename_i hn
      simp only[Option.some.injEq]at h;subst h;exact wC hm hs g8 mq hz hx hn.1 hn.2
     ·cases h
    ·cases h
   ·cases h
  ·cases h
 | jq a6 x y =>
  simp only[c8]at h;split at h
  ·rename_i s t z off len ys hx mq
   split at h
   ·rename_i b hb
    split at h
    ·rename_i hn
     obtain ⟨n1,rfl,n3,n4⟩:=hn;simp only[Option.some.injEq]at h;subst h;exact wR hm hs g8 mq n4 hx hb n1 n3
    ·cases h
   ·cases h
  ·cases h
 | call f xs =>
  simp only[c8]at h;split at h
  ·rename_i vs et
   simp only[Option.map_eq_some_iff]at h;obtain ⟨r,hr,rfl⟩:=h;exact wJ hC hm hs g8 (Np et) hr
  ·cases h
 | g6 f xs =>
  simp only[c8,Option.map_eq_some_iff]at h;obtain ⟨r,hr,rfl⟩:=h;exact gH hC hm hs g8 hr
 | mr ne x =>
  simp only[c8]at h;split at h
  ·rename_i hx
   simp only[Option.some.injEq]at h;subst h;exact VB hm hs g8 (b:=true) λ v hv=>by rw[hx]at hv;exact ⟨none,0,0,NJ hv,rfl⟩
  ·rename_i b hx
   simp only[Option.some.injEq]at h;subst h;exact VB hm hs g8 (b:=b) λ v hv=>by
    rw[hx]at hv;obtain ⟨ad,c,h1,h2⟩:=fP hv;exact ⟨ad,0,c,h1,h2⟩
  ·rename_i hx
   simp only[Option.some.injEq]at h;subst h;exact VB hm hs g8 (b:=false) λ v hv=>by rw[hx]at hv;exact vH hv
  ·rename_i hx
   simp only[Option.some.injEq]at h;subst h;exact VB hm hs g8 (b:=false) λ v hv=>by rw[hx]at hv;exact vG hv
  ·cases h
 | bad =>
  have h:(none:Option BW)=some E:=h;cases h
 | nm x =>
  simp only[c8]at h;split at h
  ·rename_i hx
   simp only[Option.some.injEq]at h;subst h;exact xK hm hs g8 hx
  ·cases h
 | dd x =>
  simp only[c8]at h;split at h
  ·rename_i hx
   simp only[Option.some.injEq]at h;subst h;exact wO hm hs g8 hx
  ·cases h
 | y6 s f xs =>
  simp only[c8,Option.map_eq_some_iff]at h;obtain ⟨p,hp,rfl⟩:=h;exact gH hC hm hs (On g8) (UU.1 hp m.own rfl)
 | jm s a6 bytes x y =>
  simp only[c8]at h;split at h
  ·rename_i q ys hx hy
   split at h
   ·rename_i hn
    simp only[Option.some.injEq]at h;subst h;exact wB hm hs g8 (ys:=ys) (by rw[hy];rfl) hn.1 hx hn.2.1 hn.2.2.1 hn.2.2.2
   ·cases h
  ·cases h
 | jn s a6 bytes x y =>
  simp only[c8]at h;split at h
  ·rename_i k n hx hy
   split at h
   ·rename_i hn
    simp only[Option.some.injEq]at h;subst h;exact wD hm hs g8 hx hy hn.1 hn.2.1 hn.2.2
   ·cases h
  ·cases h
 | ct tb x =>
  simp only[c8]at h;split at h
  ·rename_i k n hx
   split at h
   ·rename_i h0
    split at h
    ·rename_i v hv
     simp only[Option.some.injEq]at h;subst h;exact xL hm hs g8 hx h0 hv
    ·cases h
   ·cases h
  ·cases h
 | kf p f xs =>
  simp only[c8,Option.map_eq_some_iff]at h;obtain ⟨cs,fq,rfl⟩:=h;rw[hC.num];exact xG hm hs g8 fq
 | k9 f xs =>
  simp only[c8]at h;split at h
  ·rename_i hq
   split at h
   ·rename_i r hr
    split at h
    ·rename_i cn
     simp only[Option.some.injEq]at h;subst h;exact wL hC hm hs g8 hq hr cn
    ·cases h
   ·cases h
  ·cases h
 | o6 s f xs =>
  simp only[c8]at h;split at h
  ·rename_i vs et
   simp only[Option.map_eq_some_iff]at h;obtain ⟨⟨z,es⟩,hr,rfl⟩:=h;exact wM hC hm hs g8 (Nr et) hr
  ·cases h
 | az s a6 bytes x y =>
  simp only[c8]at h;split at h
  ·rename_i l ys s' t z len hy hx
   split at h
   ·rename_i b hb
    split at h
    ·rename_i hn
     obtain ⟨rfl,hz,n1,rfl,n3,n4,n5⟩:=hn;simp only[Option.some.injEq]at h;subst h;have:=gG hm hs (Ob g8) (ys:=ys) (by rw[hy];rfl) hz hx hb n1 n3 n4 n5
     intro K Q hK;exact this K Q λ u m' h1 h2 h3 h4=>hK u m' h1 h2 h3 h4
    ·cases h
   ·cases h
  ·cases h
 | jl s n x v =>
  simp only[c8]at h;split at h
  ·rename_i s' t i j vs hx et
   split at h
   ·rename_i hn
    obtain ⟨rfl,hn⟩:=hn;simp only[Option.map_eq_some_iff]at h;obtain ⟨l8,ho,rfl⟩:=h;have:=gM hm hs (Mx g8) hx et hn ho
    intro K Q hK;refine this K Q λ u m' h1 h2 h3 h4=>hK u m' ?_ h2 h3 h4
    rw[h1];exact (Sp ho).symm
   ·cases h
  ·cases h
 | n9 x xs =>
  simp only[c8]at h;split at h
  ·rename_i p f g cs hx
   split at h
   ·rename_i hg
    rw[hC.num]at hg;subst hg;split at h
    ·split at h
     ·rename_i vs et
      simp only[Option.map_eq_some_iff]at h;obtain ⟨r,hr,rfl⟩:=h;exact wK hC hm hs g8 hx et hr
     ·cases h
    ·simp only[Option.map_eq_some_iff]at h
     obtain ⟨r,hr,rfl⟩:=h;exact wN hC hm hs g8 hx hr
    ·cases h
   ·cases h
  ·cases h
end
end Go.c4
namespace Go.c4
open Go.RowKit
def D9 (T:Nat->AV):AM->AV
 | .t n=>T n
 | .c v=>v
def IA (T:Nat->AV) (d:Option Nat) (v:AV):Nat->AV:=λ j=>if d=some j then v else T j
def JM (T:Nat->AV):Option (Nat × Bool)->Option Bool
 | none=>some true
 | some (g,want)=>match T g with
  | .bool b=>some (b == want)
  | .j5 []=>some false
  | _=>none
theorem iI (st:St):st.ev=D9 (e9 st.tm):=by funext x;cases x<;>rfl
theorem Kl (st:St) (g:Option (Nat × Bool)):E4 st g=JM (e9 st.tm) g:=rfl
theorem gU (st:St) (d:Option Nat) (v:AV):e9 (st.dst d v).tm=IA (e9 st.tm) d v:=by
 cases d with
 | none=>funext j;simp [St.dst,IA]
 | some d =>
  funext j
  simp only[St.dst,IA,T3];by_cases h:j=d
  ·simp [h]
  ·simp [h,Ne.symm h]
theorem tP (st:St) (d:Option Nat) (E:BW):e9 (st.app d E).tm=IA (e9 st.tm) d (E.valOf st.own):=by
 cases E<;>simp only[St.app,BW.valOf]<;>exact gU st d _
theorem gV (st:St) (d:Option Nat) (v:AV):(st.dst d v).own=st.own:=by cases d<;>rfl
theorem tO (st:St) (d:Option Nat) (E:BW):(st.app d E).own=E.u4 st.own:=by
 cases E with
 | val v=>simp only[St.app,BW.u4];exact gV st d v
 | _=>rfl
section
variable {B:Nat} {S:Nat->Prop} {w0:World} {m0:M} {N:Nat}
variable {P:Program} {num:Nat->Nat} {C:Cl} {Q:Exit->Act->World->Prop}
structure E0 (B:Nat) (S:Nat->Prop) (w0:World) (m0:M) (N:Nat) (T:Nat->AV) (m:M) (a:Act):Prop where
 mem:BI B S w0 m
 ext:C7 B S m0 m
 tm : ∀ i,CV B S m (T i) (a.tmps.getD i undef)
 size:a.tmps.size=N
 defers:a.defers=[]
theorem E0.put {T:Nat->AV} {m m':M} {a:Act} (h:E0 B S w0 m0 N T m a) (d:Option Nat) (hd : ∀ k,d=some k->k<N) {v:AV} {u:Value} (hm:BI B S w0 m') (he:C7 B S m m') (hc:CV B S m' v u):E0 B S w0 m0 N (IA T d v) m' (a.put d u):=by
 refine ⟨hm,h.ext.trans he,λ i => ?_,?_,?_⟩
 ·cases d with
  | none=>simpa [IA,Act.put] using he.cv (h.tm i)
  | some k =>
   have hk:k<a.tmps.size:=by rw[h.size];exact hd k rfl
   by_cases zr:i=k
   ·subst zr
    simp only[IA,if_true,Act.put];simpa [Array.getD,hk] using hc
   ·have k8 : ¬ (some k=some i):=λ e=>zr (by simpa using e.symm)
    simp only[IA,if_neg k8,Act.put];have:(a.tmps.setIfInBounds k u).getD i undef=a.tmps.getD i undef:=by
     simp [Array.getElem?_setIfInBounds_ne (Ne.symm zr)]
    rw[this];exact he.cv (h.tm i)
 ·cases d<;>simp [Act.put,h.size]
 ·cases d<;>simpa [Act.put] using h.defers
theorem E0.says {T:Nat->AV} {m:M} {a:Act} (h:E0 B S w0 m0 N T m a):CD B S m (D9 T) a.eval:=Pc (λ_=>rfl) (λ_=>rfl) h.tm
theorem Rk {T:Nat->AV} {m:M} {a:Act} (h:E0 B S w0 m0 N T m a) {ops:Array Oper} {o:Oper} {g':Option (Nat × Bool)} (hg:S8 ops o.guard g'=true) {g:Bool} (ml:JM T g'=some g):Region.wanted o (yielded ops a.tmps)=g:=by
 unfold Region.wanted;cases Ex:o.guard with
 | none =>
  cases g' with
  | none=>simp [JM]at ml;simp [ml]
  | some _=>simp [S8,Ex]at hg
 | some jw =>
  obtain ⟨j,want⟩:=jw;cases g' with
  | none=>simp [S8,Ex]at hg
  | some tw =>
   obtain ⟨t,Jt⟩:=tw;simp only[S8,Ex,Bool.and_eq_true,beq_iff_eq]at hg;obtain ⟨rfl,hg⟩:=hg;split at hg
   ·rename_i oj Ce
    have Ee:oj.dst=some t:=by simpa using hg
    have q6:=h.tm t;simp only[JM]at ml;unfold yielded;simp only[Ce,Option.bind_some,Ee];split at ml
    ·rename_i b hb
     rw[hb]at q6;have hv:=PH q6;have l7:a.tmps[t]? = some (.bool b):=by
      cases ht:a.tmps[t]? with
      | none=>simp [ht,undef]at hv
      | some x=>simp [ht]at hv;rw[hv]
     simp only[l7];simp at ml;rw[<-ml];cases b<;>cases want<;>rfl
    ·rename_i hb
     rw[hb]at q6;obtain ⟨vs,hv,hl,_⟩:=XX q6;have:vs=[]:=List.eq_nil_of_length_eq_zero (by simpa using hl.symm)
     subst this;simp at ml;subst ml;cases ht:a.tmps[t]? with
     | none=>rfl
     | some x =>
      simp [ht]at hv;subst hv;rfl
    ·cases ml
   ·cases hg
theorem pJ (hC:G0 P num C) {ops:Array Oper} {i:Nat} {o:Oper} {ai:AI} (hi:ops[i]? = some o) (g8:VZ P num N ops o ai=true) {T:Nat->AV} {m:M} {a:Act} (hf:E0 B S w0 m0 N T m a) {g:Bool} (hg:JM T ai.guard=some g) {E:BW}
  (hE:g=true->c8 C ai.b9 (D9 T) m.own ai.op=some E) {K:Act->World->Prop} (hK : ∀ m' a',m'.own=(if g then E.u4 m.own else m.own)->E0 B S w0 m0 N (IA T ai.dst (if g then E.valOf m.own else .j5 [])) m' a'->K a' m'.w):wpOp P ops Q i K a m.w:=by
 simp only[VZ,Bool.and_eq_true,beq_iff_eq]at g8;obtain ⟨⟨⟨h1,h2⟩,h3⟩,h4⟩:=g8;have hd : ∀ k,o.dst=some k->k<N:=λ k hk=>by
  rw[h1]at hk;rw[hk]at h2;simpa using h2
 unfold wpOp;simp only[hi,Rk hf h3 hg];cases g with
 | true =>
  simp only[if_true];refine .inl (yF hC hf.mem hf.says h4 (hE rfl) K Q λ u m' j6 gp ck q6 => ?_);refine hK m' _ (by simpa using j6) ?_;rw[<-h1];exact hf.put o.dst hd gp ck q6
 | false =>
  simp only[Bool.false_eq_true,if_false];refine hK m _ (by simp) ?_;rw[<-h1];exact hf.put o.dst hd hf.mem (C7.refl m) lK
theorem oK {o:AI} {st j7:St} (h:C3 C o st=some j7) : ∃ g E,JM (e9 st.tm) o.guard=some g/\(g=true->c8 C o.b9 (D9 (e9 st.tm)) st.own o.op=some E)/\e9 j7.tm=IA (e9 st.tm) o.dst (if g then E.valOf st.own else .j5 [])/\j7.own=(if g then E.u4 st.own else st.own):=by
 unfold C3 at h;rw[Kl]at h;cases hg:JM (e9 st.tm) o.guard with
 | none=>simp [hg]at h
 | some g =>
  cases g with
  | true =>
   simp only[hg,Option.map_eq_some_iff]at h;obtain ⟨E,hE,rfl⟩:=h;rw[iI]at hE;exact ⟨true,E,rfl,λ_=>hE,tP st o.dst E,tO st o.dst E⟩
  | false =>
   simp only[hg,Option.some.injEq]at h;subst h;exact ⟨false,.val .any,rfl,λ h=>(by cases h),gU st o.dst _,gV st o.dst _⟩
theorem S9 {ops:Array Oper} : ∀ {os:List Oper} {l:List AI},NV P num N ops os l=true->os.length=l.length /\ ∀ (i:Nat) (o:Oper) (x:AI),os[i]? = some o->l[i]? = some x->VZ P num N ops o x=true
 | [],[],_=>⟨rfl,λ i o x h=>by simp at h⟩
 | o::r,x::l,h=>by
  simp only[NV,Bool.and_eq_true]at h;obtain ⟨h1,h2⟩:=S9 h.2;refine ⟨by simp [h1],λ i o' x' ho hx => ?_⟩;cases i with
  | zero=>simp at ho hx;subst ho hx;exact h.1
  | succ i=>exact h2 i o' x' (by simpa using ho) (by simpa using hx)
 | [],_::_,h=>by simp [NV]at h
 | _::_,[],h=>by simp [NV]at h
theorem pK (hC:G0 P num C) {ops:Array Oper} {l:List AI} (g8:NV P num N ops ops.toList l=true) : ∀ (n k:Nat) (st j7:St) (m:M) (a:Act),n+k=ops.size->C6 C (l.drop k) st=some j7->m.own=st.own->E0 B S w0 m0 N (e9 st.tm) m a ->
  (∀ m' a',m'.own=j7.own->E0 B S w0 m0 N (e9 j7.tm) m' a'->Q .normal a' m'.w)->wpOps P ops Q (List.range' k n) a m.w
 | 0,k,st,j7,m,a,hk,hs,j6,hf,hQ=>by
  have hl:=(S9 g8).1;simp at hl;rw[List.drop_eq_nil_of_le (by omega)]at hs;simp only[C6,Option.some.injEq]at hs;subst hs;simpa [wpOps] using hQ m a j6 hf
 | n+1,k,st,j7,m,a,hk,hs,j6,hf,hQ=>by
  obtain ⟨hl,hg⟩:=S9 g8;simp at hl;have vi:k<l.length:=by omega
  have Ic:k<ops.size:=by omega
  rw[List.drop_eq_getElem_cons vi]at hs;simp only[C6]at hs;cases j9:C3 C l[k] st with
  | none=>simp [j9]at hs
  | some A7 =>
   simp only[j9]at hs;obtain ⟨g,E,h1,h2,h3,h4⟩:=oK j9;rw[List.range'_succ,wpOps_cons];have Vw:ops[k]? = some ops[k]:=Array.getElem?_eq_getElem Ic;refine pJ hC Vw (hg k ops[k] l[k] (by simp [Ic]) (zE vi)) hf h1 (λ ag=>by rw[j6];exact h2 ag) λ m' a' fu ic => ?_
   refine pK hC g8 n (k+1) A7 j7 m' a' (by omega) hs ?_ ?_ hQ
   ·rw[fu,j6,h4]
   ·rw[j6]at ic
    rw[h3];exact ic
end
end Go.c4

namespace Go.c4
open Go.RowKit
section
variable {T T':Nat->AV} {C:Cl} {b9:List Nat} {own:AH}
theorem CO {x:AM} (h : ∀ t∈B5 x,T t=T' t):D9 T x=D9 T' x:=by
 cases x with
 | t n=>exact h n (by simp [B5])
 | c v=>rfl
theorem PZ {xs:List AM} (h : ∀ t∈xs.flatMap B5,T t=T' t):xs.map (D9 T)=xs.map (D9 T') :=
 List.map_congr_left λ x hx=>CO λ t ht=>h t (List.mem_flatMap.2 ⟨x,hx,ht⟩)
theorem mI {x:Option AM} (h : ∀ t∈aB x,T t=T' t) {y:AM} (hy:x=some y):D9 T y=D9 T' y:=by
 subst hy;exact CO h
theorem yA {op:DL} (h : ∀ t∈FF op,T t=T' t):c8 C b9 (D9 T) own op=c8 C b9 (D9 T') own op:=by
 cases op with
 | build z ps =>
  simp only[c8];congr 2;refine List.map_congr_left λ p hp => ?_
  rw[CO (x:=p.2.2) λ t ht=>h t (by simp only[FF];exact List.mem_flatMap.2 ⟨p,hp,ht⟩)]
 | c9 s a6 ps =>
  have hm:ps.mapM (λ x=>cellsOf (D9 T x))=ps.mapM (λ x=>cellsOf (D9 T' x)):=by
   have e : ∀ l:List AM,(∀ x∈l,D9 T x=D9 T' x)->l.mapM (λ x=>cellsOf (D9 T x))=l.mapM (λ x=>cellsOf (D9 T' x)):=by
    intro l;induction l with
    | nil=>intro _;rfl
    | cons x r ih=>intro hl;simp only[List.mapM_cons];rw[hl x (by simp),ih λ y hy=>hl y (by simp [hy])]
   exact e ps λ x hx=>CO λ t ht=>h t (by simp only[FF];exact List.mem_flatMap.2 ⟨x,hx,ht⟩)
  simp only[c8,hm]
 | mm mx xs=>simp only[c8];rw[PZ (xs:=xs) h]
 | call f xs=>simp only[c8];rw[PZ (xs:=xs) h]
 | g6 f xs=>simp only[c8];rw[PZ (xs:=xs) h]
 | mr ne x=>simp only[c8];rw[CO (x:=x) h]
 | bad=>rfl
 | nm x=>simp only[c8];rw[CO (x:=x) h]
 | dd x=>simp only[c8];rw[CO (x:=x) h]
 | jn s a6 bytes x y =>
  simp only[FF,List.mem_append]at h;simp only[c8];rw[CO (x:=x) λ t ht=>h t (.inl ht),CO (x:=y) λ t ht=>h t (.inr ht)]
 | jm s a6 bytes x y =>
  simp only[FF,List.mem_append]at h;simp only[c8];rw[CO (x:=x) λ t ht=>h t (.inl ht),CO (x:=y) λ t ht=>h t (.inr ht)]
 | ct tb x=>simp only[c8];rw[CO (x:=x) h]
 | kf p f xs =>
  have e : ∀ l:List AM,(∀ x∈l,D9 T x=D9 T' x)->l.mapM (λ x=>GF (D9 T x))=l.mapM (λ x=>GF (D9 T' x)):=by
   intro l;induction l with
   | nil=>intro _;rfl
   | cons x r ih=>intro hl;simp only[List.mapM_cons];rw[hl x (by simp),ih λ y hy=>hl y (by simp [hy])]
  simp only[c8];rw[e xs λ x hx=>CO λ t ht=>h t (by simp only[FF];exact List.mem_flatMap.2 ⟨x,hx,ht⟩)]
 | k9 f xs=>simp only[c8];rw[PZ (xs:=xs) h]
 | o6 s f xs=>simp only[c8];rw[PZ (xs:=xs) h]
 | y6 s f xs=>simp only[c8];rw[PZ (xs:=xs) h]
 | jl s n x v =>
  simp only[FF,List.mem_append]at h;simp only[c8];rw[CO (x:=x) λ t ht=>h t (.inl ht),CO (x:=v) λ t ht=>h t (.inr ht)]
 | n9 x xs =>
  simp only[FF,List.mem_append]at h;simp only[c8];rw[CO (x:=x) λ t ht=>h t (.inl ht),PZ (xs:=xs) λ t ht=>h t (.inr ht)]
 | dc a6 x lo hi =>
  simp only[FF,List.mem_append]at h;have hx:D9 T x=D9 T' x:=CO λ t ht=>h t (.inl (.inl ht))
  have jc : ∀ y,lo=some y->D9 T y=D9 T' y:=λ y hy=>mI (λ t ht=>h t (.inl (.inr ht))) hy
  have Ca : ∀ y,hi=some y->D9 T y=D9 T' y:=λ y hy=>mI (λ t ht=>h t (.inr ht)) hy
  simp only[c8,hx];cases lo with
  | none=>cases hi with
   | none=>rfl
   | some y=>simp only[Ca y rfl]
  | some z=>cases hi with
   | none=>simp only[jc z rfl]
   | some y=>simp only[jc z rfl,Ca y rfl]
 | w9=>rfl
 | alloc=>rfl
 | b7 x=>simp only[c8];rw[CO (x:=x) h]
 | un f x=>simp only[c8];rw[CO (x:=x) h]
 | conv k x=>simp only[c8];rw[CO (x:=x) h]
 | box s x=>simp only[c8];rw[CO (x:=x) h]
 | a5 x off=>simp only[c8];rw[CO (x:=x) h]
 | ja x off n agg=>simp only[c8];rw[CO (x:=x) h]
 | ld agg n x=>simp only[c8];rw[CO (x:=x) h]
 | ext x i=>simp only[c8];rw[CO (x:=x) h]
 | len x=>simp only[c8];rw[CO (x:=x) h]
 | pick c x y =>
  simp only[FF,List.mem_append]at h;simp only[c8];rw[CO (x:=c) λ t ht=>h t (.inl (.inl ht)),CO (x:=x) λ t ht=>h t (.inl (.inr ht)),CO (x:=y) λ t ht=>h t (.inr ht)]
 | bin f x y =>
  simp only[FF,List.mem_append]at h;simp only[c8];rw[CO (x:=x) λ t ht=>h t (.inl ht),CO (x:=y) λ t ht=>h t (.inr ht)]
 | mv ne n x y =>
  simp only[FF,List.mem_append]at h;simp only[c8];rw[CO (x:=x) λ t ht=>h t (.inl ht),CO (x:=y) λ t ht=>h t (.inr ht)]
 | beq ne x y =>
  simp only[FF,List.mem_append]at h;simp only[c8];rw[CO (x:=x) λ t ht=>h t (.inl ht),CO (x:=y) λ t ht=>h t (.inr ht)]
 | a9 arr a6 x i =>
  simp only[FF,List.mem_append]at h;simp only[c8];rw[CO (x:=x) λ t ht=>h t (.inl ht),CO (x:=i) λ t ht=>h t (.inr ht)]
 | idx len a6 agg x i =>
  simp only[FF,List.mem_append]at h;simp only[c8];rw[CO (x:=x) λ t ht=>h t (.inl ht),CO (x:=i) λ t ht=>h t (.inr ht)]
 | st n x v =>
  simp only[FF,List.mem_append]at h;simp only[c8];rw[CO (x:=x) λ t ht=>h t (.inl ht),CO (x:=v) λ t ht=>h t (.inr ht)]
 | mk s a6 bytes z l c =>
  simp only[FF,List.mem_append]at h;simp only[c8];rw[CO (x:=l) λ t ht=>h t (.inl ht),CO (x:=c) λ t ht=>h t (.inr ht)]
 | app s a6 bytes x y =>
  simp only[FF,List.mem_append]at h;simp only[c8];rw[CO (x:=x) λ t ht=>h t (.inl ht),CO (x:=y) λ t ht=>h t (.inr ht)]
 | az s a6 bytes x y =>
  simp only[FF,List.mem_append]at h;simp only[c8];rw[CO (x:=x) λ t ht=>h t (.inl ht),CO (x:=y) λ t ht=>h t (.inr ht)]
 | jq a6 x y =>
  simp only[FF,List.mem_append]at h;simp only[c8];rw[CO (x:=x) λ t ht=>h t (.inl ht),CO (x:=y) λ t ht=>h t (.inr ht)]
theorem kG (o:AH) (l:List Nat) (s:Nat):o.l9 l s=if s∈l then ⟨0,λ_=>none⟩ else o s:=by
 induction l with
 | nil=>simp [AH.l9]
 | cons x r ih =>
  simp only[AH.l9,List.mem_cons];by_cases h:s=x
  ·simp [h]
  ·rw[if_neg h,ih]
   simp [h]
theorem Kb {o o':AH} {l:List Nat} (h : ∀ s,s ∉ l->o s=o' s):o.l9 l=o'.l9 l:=by
 funext s
 rw[kG,kG];split
 ·rfl
 ·rename_i hs;exact h s hs
end
section
variable {ops:Array Oper}
def inner (acc:Array Nat) (o:Oper):Nat:=o.after.foldl (λ s e=>if Region.binds .any e then s ||| 2^e.on ||| acc.getD e.on 0 else s) 0
theorem Nw (acc:Array Nat) (o:Oper) (j:Nat) (h:(inner acc o).testBit j=true) : ∃ e∈o.after,Region.binds .any e=true/\(e.on=j\/(acc.getD e.on 0).testBit j=true):=by
 unfold inner at h;rw[<-Array.foldl_toList]at h;have key : ∀ (l:List Edge) (s:Nat),(l.foldl (λ s e=>if Region.binds .any e then s ||| 2^e.on ||| acc.getD e.on 0 else s) s).testBit j=true->s.testBit j=true \/ ∃ e∈l,Region.binds .any e=true/\(e.on=j\/(acc.getD e.on 0).testBit j=true):=by
  intro l;induction l with
  | nil=>intro s hs;exact .inl hs
  | cons e r ih =>
   intro s hs;simp only[List.foldl_cons]at hs;rcases ih _ hs with h1|⟨e',ef,h2⟩
   ·by_cases hb:Region.binds .any e=true
    ·simp only[hb,if_true,Nat.testBit_or,Bool.or_eq_true,Nat.testBit_two_pow,decide_eq_true_eq]at h1
     rcases h1 with (h1|h1)|h1
     ·exact .inl h1
     ·exact .inr ⟨e,by simp,hb,.inl h1⟩
     ·exact .inr ⟨e,by simp,hb,.inr h1⟩
    ·simp only[hb,Bool.false_eq_true,if_false]at h1
     exact .inl h1
   ·exact .inr ⟨e',by simp [ef],h2⟩
 rcases key _ _ h with h|⟨e,he,h⟩
 ·simp at h
 ·exact ⟨e,by simpa using he,h⟩
theorem tR (i j:Nat) (h:((Region.before ops).getD i 0).testBit j=true) : ∃ o,ops[i]? = some o /\ ∃ e∈o.after,Region.binds .any e=true/\(e.on=j\/(e.on<i/\((Region.before ops).getD e.on 0).testBit j=true)):=by
 have key : ∀ (rest:List Oper) (done:List Oper) (acc:Array Nat),acc.size=done.length ->
   (∀ i j,(acc.getD i 0).testBit j=true -> ∃ o,done[i]? = some o /\ ∃ e∈o.after,Region.binds .any e=true/\(e.on=j\/(e.on<i/\(acc.getD e.on 0).testBit j=true))) ->
   ∀ i j,((rest.foldl (λ acc o=>acc.push (inner acc o)) acc).getD i 0).testBit j=true -> ∃ o,(done++rest)[i]? = some o /\ ∃ e∈o.after,Region.binds .any e=true/\(e.on=j\/(e.on<i/\((rest.foldl (λ acc o=>acc.push (inner acc o)) acc).getD e.on 0).testBit j=true)):=by
  intro rest;induction rest with
  | nil=>intro done acc hs hinv i j hj;simpa using hinv i j hj
  | cons o r ih =>
   intro done acc hs hinv i j hj;simp only[List.foldl_cons]at hj ⊢;have:=ih (done++[o]) (acc.push (inner acc o)) (by simp [hs]) (λ i j ta => ?_) i j hj
   ·simpa using this
   ·have l7 : ∀ k,k<acc.size->(acc.push (inner acc o)).getD k 0=acc.getD k 0:=λ k hk=>by
     simp [Array.getD,hk,Nat.lt_succ_of_lt hk,Array.getElem_push_lt hk]
    by_cases hi:i<acc.size
    ·rw[l7 i hi]at ta
     obtain ⟨o',ri,e,he,hb,au⟩:=hinv i j ta;refine ⟨o',by rw[List.getElem?_append_left (by omega)];exact ri,e,he,hb,au.imp id λ⟨h1,h2⟩=>⟨h1,by rw[l7 e.on (by omega)];exact h2⟩⟩
    ·have Ek:i=acc.size:=by
      rcases Nat.lt_or_ge i (acc.push (inner acc o)).size with h1|h1
      ·simp at h1;omega
      ·have:(acc.push (inner acc o)).getD i 0=0:=by simp [Array.getD];intro h2;simp at h1;omega
       rw[this]at ta;simp at ta
     subst Ek;have gd:(acc.push (inner acc o)).getD acc.size 0=inner acc o:=by simp [Array.getD]
     rw[gd]at ta;obtain ⟨e,he,hb,au⟩:=Nw acc o j ta;refine ⟨o,by rw[hs];simp,e,he,hb,au.imp id λ h2 => ?_⟩;have l6:e.on<acc.size:=by
      rcases Nat.lt_or_ge e.on acc.size with h3|h3
      ·exact h3
      ·have:acc.getD e.on 0=0:=by simp [Array.getD];omega
       rw[this]at h2;simp at h2
     exact ⟨l6,by rw[l7 e.on l6];exact h2⟩
 have hb:Region.before ops=ops.toList.foldl (λ acc o=>acc.push (inner acc o)) #[]:=by
  unfold Region.before;rw[<-Array.foldl_toList];rfl
 rw[hb]at h ⊢;have:=key ops.toList [] #[] rfl (λ i j ta=>by simp at ta) i j h
 simpa using this
def QI (ops:Array Oper) (X:Nat->Bool):Prop := ∀ j o,X j=true->ops[j]? = some o -> ∀ e∈o.after,Region.binds .any e=true->X e.on=true
theorem Gn {X:Nat->Bool} (hX:QI ops X) : ∀ (i:Nat),(∀ o,ops[i]? = some o -> ∀ e∈o.after,Region.binds .any e=true->X e.on=true) -> ∀ j,((Region.before ops).getD i 0).testBit j=true->X j=true:=by
 intro i;induction i using Nat.strongRecOn with
 | ind i ih =>
  intro hi j hj;obtain ⟨o,ho,e,he,hb,au⟩:=tR i j hj;have hx:=hi o ho e he hb;rcases au with h|⟨l6,h⟩
  ·rw[<-h];exact hx
  ·exact ih e.on l6 (λ o' ri e' ef k6=>hX e.on o' hx ri e' ef k6) j h
theorem Qp {X:Nat->Bool} (hX:QI ops X) {i j:Nat} (hi : ∀ o,ops[i]? = some o -> ∀ e∈o.after,Region.binds .any e=true->X e.on=true) (l6:j<i) (h:HN (Region.before ops) i j=true):X j=true:=by
 unfold HN at h;rw[Nat.max_eq_left (by omega),Nat.min_eq_right (by omega)]at h;exact Gn hX i hi j h
theorem mK {X:Nat->Bool} (hX:QI ops X) {i j:Nat} (hj:X j=true) (l6:i<j) (h:HN (Region.before ops) i j=true):X i=true:=by
 unfold HN at h;rw[Nat.max_eq_right (by omega),Nat.min_eq_left (by omega)]at h;exact Gn hX j (λ o ho e he hb=>hX j o hj ho e he hb) i h
end
section
variable {C:Cl}
abbrev D:=(Nat->AV) × AH
structure DM where
 d:Option Nat
 g:Bool
 E:BW
 v:AV
def DM.own (r:DM) (o:AH):AH:=if r.g then r.E.u4 o else o
def DM.act (r:DM) (x:D):D:=(IA x.1 r.d r.v,r.own x.2)
structure QJ (C:Cl) (x:AI) (r:DM) (s s':St):Prop where
 d:r.d=x.dst
 g:JM (e9 s.tm) x.guard=some r.g
 E:r.g=true->c8 C x.b9 (D9 (e9 s.tm)) s.own x.op=some r.E
 v:r.v=(if r.g then r.E.valOf s.own else .j5 [])
 act:(e9 s'.tm,s'.own)=r.act (e9 s.tm,s.own)
theorem trace : ∀ {l:List AI} {st j7:St},C6 C l st=some j7 -> ∃ (σ:Nat->St) (rs:List DM),σ 0=st/\σ l.length=j7/\rs.length=l.length /\ ∀ (k:Nat) (x:AI) (r:DM),l[k]? = some x->rs[k]? = some r->QJ C x r (σ k) (σ (k+1))
 | [],st,j7,h=>by
  simp only[C6,Option.some.injEq]at h;subst h;exact ⟨λ_=>st,[],rfl,rfl,rfl,λ k x r hx=>by simp at hx⟩
 | o::q,st,j7,h=>by
  simp only[C6]at h;cases hs:C3 C o st with
  | none=>simp [hs]at h
  | some A7 =>
   simp only[hs]at h;obtain ⟨σ,rs,h0,h1,hl,h2⟩:=trace h;obtain ⟨g,E,e1,e2,e3,e4⟩:=oK hs;refine ⟨λ k=>match k with|0=>st|k+1=>σ k,⟨o.dst,g,E,if g then E.valOf st.own else .j5 []⟩::rs,rfl,h1,by simp [hl],λ k x r hx hr => ?_⟩;cases k with
   | zero =>
    simp at hx hr;subst hx hr;refine ⟨rfl,e1,e2,rfl,?_⟩;show (e9 (σ 0).tm,(σ 0).own)=_;rw[h0,e3,e4];rfl
   | succ k=>exact h2 k x r (by simpa using hx) (by simpa using hr)
def DG (X:Nat->Bool):List DM->Nat->D->D
 | [],_,x=>x
 | r::rs,k,x=>DG X rs (k+1) (if X k then r.act x else x)
theorem Y4 (X:Nat->Bool) : ∀ (l l':List DM) (k:Nat) (x:D),DG X (l++l') k x=DG X l' (k+l.length) (DG X l k x)
 | [],l',k,x=>by simp [DG]
 | r::rs,l',k,x=>by
  simp only[List.cons_append,DG,List.length_cons];rw[Y4 X rs l' (k+1)];congr 1;omega
theorem jU {X Y:Nat->Bool} {t:Nat} : ∀ (l:List DM) (k:Nat) (x y:D),x.1 t=y.1 t->(∀ i r,l[i]? = some r->r.d=some t->X (k+i)=Y (k+i))->(DG X l k x).1 t=(DG Y l k y).1 t
 | [],k,x,y,h,_=>h
 | r::rs,k,x,y,h,od=>by
  simp only[DG];refine jU rs (k+1) _ _ ?_ λ i r' hr hd=>by
   have:=od (i+1) r' (by simpa using hr) hd
   rw[show k+1+i=k+(i+1) by omega];exact this
  by_cases hd:r.d=some t
  ·have hx:X k=Y k:=by simpa using od 0 r rfl hd
   rw[hx];cases Y k
   ·simpa using h
   ·simp [DM.act,IA,hd]
  ·have e1 : ∀ z:D,(r.act z).1 t=z.1 t:=λ z=>by simp [DM.act,IA,hd]
   cases X k<;>cases Y k<;>simp [e1,h]
theorem Qq (E:BW) (s:Nat) (o o':AH) (h:o s=o' s):E.u4 o s=E.u4 o' s:=by
 cases E with
 | val v=>exact h
 | new s' b v =>
  simp only[BW.u4,AH.put];by_cases hs:s=s'
  ·subst hs;simp [h]
  ·simp [hs,h]
 | sd s' b v =>
  simp only[BW.u4,AH.put];by_cases hs:s=s'
  ·subst hs;simp [h]
  ·simp [hs,h]
 | z0 v o2=>rfl
 | nr s' x v =>
  simp only[BW.u4,AH.put];by_cases hs:s=s'
  ·simp [hs]
  ·simp [hs,h]
 | m7 s' x =>
  simp only[BW.u4,AH.put];by_cases hs:s=s'
  ·simp [hs]
  ·simp [hs,h]
theorem jT {X Y:Nat->Bool} {s:Nat} : ∀ (l:List DM) (k:Nat) (x y:D),x.2 s=y.2 s->(∀ i r,l[i]? = some r->X (k+i)=Y (k+i) \/ ∀ o,r.own o s=o s)->(DG X l k x).2 s=(DG Y l k y).2 s
 | [],k,x,y,h,_=>h
 | r::rs,k,x,y,h,od=>by
  simp only[DG];refine jT rs (k+1) _ _ ?_ λ i r' hr=>by
   have:=od (i+1) r' (by simpa using hr)
   rw[show k+1+i=k+(i+1) by omega];exact this
  rcases od 0 r rfl with hx|hx
  ·simp only[Nat.add_zero]at hx
   rw[hx];cases Y k
   ·simpa using h
   ·simp only[if_true,DM.act,DM.own]
    cases r.g
    ·simpa using h
    ·simpa using Qq r.E s _ _ h
  ·have e1 : ∀ z:D,(r.act z).2 s=z.2 s:=λ z=>hx z.2
   cases X k<;>cases Y k<;>simp [e1,h]
theorem Y5 {X:Nat->Bool} (q:DM) : ∀ (l:List DM) (k:Nat) (x:D),(∀ i r,l[i]? = some r->X (k+i)=true -> ∀ z,r.act (q.act z)=q.act (r.act z))->DG X l k (q.act x)=q.act (DG X l k x)
 | [],k,x,_=>rfl
 | r::rs,k,x,h=>by
  simp only[DG];have aw : ∀ i r',rs[i]? = some r'->X (k+1+i)=true -> ∀ z,r'.act (q.act z)=q.act (r'.act z):=λ i r' hr hX=>h (i+1) r' (by simpa using hr) (by rw[show k+(i+1)=k+1+i by omega];exact hX)
  cases hk:X k
  ·simp only[Bool.false_eq_true,if_false]
   exact Y5 q rs (k+1) x aw
  ·simp only[if_true]
   rw[h 0 r rfl (by simpa using hk)];exact Y5 q rs (k+1) _ aw
theorem VM {X Y:Nat->Bool} : ∀ (l:List DM) (k:Nat) (x:D),(∀ i,i<l.length->X (k+i)=Y (k+i))->DG X l k x=DG Y l k x
 | [],_,_,_=>rfl
 | r::rs,k,x,h=>by
  simp only[DG];rw[show X k=Y k by simpa using h 0 (by simp)];exact VM rs (k+1) _ λ i hi=>by
   have:=h (i+1) (by simpa using hi)
   rw[show k+1+i=k+(i+1) by omega];exact this
theorem jS {X X':Nat->Bool} {l:List DM} {i:Nat} {q:DM} (hq:l[i]? = some q) (gl:X i=false) (qf : ∀ j,X' j=(decide (j=i)||X j)) (x:D) (zf : ∀ j r,l[j]? = some r->i<j->X j=true -> ∀ z,r.act (q.act z)=q.act (r.act z)) :
  DG X' l 0 x=q.act (DG X l 0 x):=by
 have dk:i<l.length:=(zS hq).1;have Vl:l=l.take i++(q::l.drop (i+1)):=by
  have:l.drop i=q::l.drop (i+1):=by
   rw[List.drop_eq_getElem_cons dk];congr 1;have:=(zS hq).2
   exact this
  rw[<-this,List.take_append_drop]
 have im:(l.take i).length=i:=by simp;omega
 rw[Vl,Y4,Y4,im,Nat.zero_add];simp only[DG,gl,Bool.false_eq_true,if_false];rw[show X' i=true by rw[qf];simp];simp only[if_true];rw[VM (X:=X') (Y:=X) (l.take i) 0 x (λ j hj=>by rw[qf];simp;omega)];rw[VM (X:=X') (Y:=X) (l.drop (i+1)) (i+1) _ (λ j hj=>by rw[qf];simp;omega)];refine Y5 q _ _ _ λ j r hr Dt => ?_
 rw[List.getElem?_drop]at hr;exact zf (i+1+j) r hr (by omega) Dt
end
end Go.c4

namespace Go.c4
open Go.RowKit
section
variable {C:Cl} {b9:List Nat} {ρ:AM->AV}
theorem yD {op:DL} (o o':AH) (ht:FS op=false) (hr:TH op=true->o.l9 b9=o'.l9 b9) (j9 : ∀ s,D7 op=some s->o s=o' s):c8 C b9 ρ o op=c8 C b9 ρ o' op:=by
 cases op with
 | jl s n x v =>
  have h1:=j9 s rfl;have h2 : ∀ t i j vs,(o.gi s t i j vs).map (λ q=>BW.m7 s (q s))=(o'.gi s t i j vs).map (λ q=>BW.m7 s (q s)):=λ t i j vs=>by
   have hg:o.get s t=o'.get s t:=by unfold AH.get;rw[h1]
   unfold AH.gi;rw[hg];cases o'.get s t with
   | none=>rfl
   | some b =>
    simp only;cases b.es[i]? with
    | none=>rfl
    | some cs =>
     simp only;split
     ·simp only[Option.map_some,AH.j4,h1]
     ·rfl
  simp only[c8,h2]
 | az s a6 bytes x y =>
  have h1:=j9 s rfl;have hg : ∀ t,o.get s t=o'.get s t:=λ t=>by unfold AH.get;rw[h1]
  simp only[c8,hg,AH.g7,h1]
 | ld agg n x=>have:=hr rfl;simp only[c8,this]
 | call f xs=>have:=hr rfl;simp only[c8,this]
 | o6 s f xs=>have:=hr rfl;simp only[c8,this]
 | y6 s f xs=>have h1:=j9 s rfl;simp only[c8,h1]
 | st=>simp [FS]at ht
 | app=>simp [FS]at ht
 | jq=>simp [FS]at ht
 | g6=>simp [FS]at ht
 | n9=>simp [FS]at ht
 | _=>rfl
theorem gZ {op:DL} {o:AH} {E:BW} (h:c8 C b9 ρ o op=some E) {s:Nat} (hs:D7 op=some s):(∃ b v,E = .new s b v\/E = .sd s b v) \/ ∃ x v,E = .m7 s x\/E = .nr s x v:=by
 cases op with
 | az s' a6 bytes x y =>
  simp only[D7,Option.some.injEq]at hs;subst hs;simp only[c8]at h;split at h
  ·split at h
   ·split at h
    ·simp only[Option.some.injEq]at h;exact .inr ⟨_,_,.inr h.symm⟩
    ·cases h
   ·cases h
  ·cases h
 | jl s' n x v =>
  simp only[D7,Option.some.injEq]at hs;subst hs;simp only[c8]at h;split at h
  ·split at h
   ·simp only[Option.map_eq_some_iff]at h
    obtain ⟨q,_,rfl⟩:=h;exact .inr ⟨_,.any,.inl rfl⟩
   ·cases h
  ·cases h
 | o6 s' f xs =>
  simp only[D7,Option.some.injEq]at hs;subst hs;simp only[c8]at h;split at h
  ·simp only[Option.map_eq_some_iff]at h
   obtain ⟨r,_,rfl⟩:=h;exact .inl ⟨_,_,.inl rfl⟩
  ·cases h
 | jn s' a6 bytes x y =>
  simp only[D7,Option.some.injEq]at hs;subst hs;simp only[c8]at h;split at h
  ·split at h
   ·simp only[Option.some.injEq]at h;exact .inl ⟨_,_,.inl h.symm⟩
   ·cases h
  ·cases h
 | y6 s' f xs =>
  simp only[D7,Option.some.injEq]at hs;subst hs;simp only[c8,Option.map_eq_some_iff]at h;obtain ⟨p,_,rfl⟩:=h;exact .inr ⟨_,_,.inr rfl⟩
 | jm s' a6 bytes x y =>
  simp only[D7,Option.some.injEq]at hs;subst hs;simp only[c8]at h;split at h
  ·split at h
   ·simp only[Option.some.injEq]at h;exact .inl ⟨_,_,.inl h.symm⟩
   ·cases h
  ·cases h
 | w9 s' z =>
  simp only[D7,Option.some.injEq]at hs;subst hs;simp only[c8,Option.some.injEq]at h;exact .inl ⟨_,_,.inr h.symm⟩
 | box s' x =>
  simp only[D7,Option.some.injEq]at hs;subst hs;simp only[c8]at h;split at h
  ·simp only[Option.some.injEq]at h;exact .inl ⟨_,_,.inl h.symm⟩
  ·cases h
 | alloc s' z =>
  simp only[D7,Option.some.injEq]at hs;subst hs;simp only[c8,Option.some.injEq]at h;exact .inl ⟨_,_,.inl h.symm⟩
 | c9 s' a6 ps =>
  simp only[D7,Option.some.injEq]at hs;subst hs;simp only[c8]at h;split at h
  ·split at h
   ·simp only[Option.some.injEq]at h;exact .inl ⟨_,_,.inl h.symm⟩
   ·cases h
  ·cases h
 | mk s' a6 bytes z l c =>
  simp only[D7,Option.some.injEq]at hs;subst hs;simp only[c8]at h;split at h
  ·split at h
   ·simp only[Option.some.injEq]at h;exact .inl ⟨_,_,.inl h.symm⟩
   ·cases h
  ·cases h
 | _=>simp [D7]at hs
theorem ZV {α:Type} {x:Option α} {f:α->AV} {E:BW} (h:x.map (λ y=>BW.val (f y))=some E) : ∃ v,E = .val v:=by
 cases x with
 | none=>cases h
 | some y=>simp only[Option.map_some,Option.some.injEq]at h;exact ⟨_,h.symm⟩
theorem hJ {op:DL} {o:AH} {E:BW} (h:c8 C b9 ρ o op=some E) (ht:FS op=false) (hs:D7 op=none) : ∃ v,E = .val v:=by
 cases op<;>first|(simp [FS]at ht;done)|(simp [D7]at hs;done)|skip
 all_goals simp only[c8]at h
 all_goals
  first
   | (simp only[Option.some.injEq]at h;exact ⟨_,h.symm⟩)
   | exact ZV (f:=id) h
   | skip
 all_goals (repeat' split at h)
 all_goals
  first
   | (cases h;done)
   | (simp only[Option.some.injEq]at h;exact ⟨_,h.symm⟩)
   | exact ZV (f:=id) h
   | exact ZV (f:=AV.agg) h
   | (simp only[Option.map_eq_some_iff]at h;obtain ⟨cs,_,rfl⟩:=h;exact ⟨_,rfl⟩)
theorem P3 {x:AI} {r:DM} {s s':St} (h:QJ C x r s s') (ht:FS x.op=false) (hs:D7 x.op=none) (o:AH):r.own o=o:=by
 unfold DM.own;cases hg:r.g with
 | false=>rfl
 | true =>
  obtain ⟨v,hv⟩:=hJ (h.E hg) ht hs;simp [hv,BW.u4]
theorem aJ {x:AI} {r:DM} {s s':St} (h:QJ C x r s s') {q:Nat} (hs:D7 x.op=some q):(∀ o,r.own o=o) \/ ∃ F:BX->BX,∀ o:AH,r.own o=o.put q (F (o q)):=by
 unfold DM.own;cases hg:r.g with
 | false=>exact .inl λ_=>rfl
 | true =>
  rcases gZ (h.E hg) hs with ⟨b,v,hv|hv⟩|⟨x,v,hv|hv⟩
  ·exact .inr ⟨λ q=>q.new b,λ o=>by simp [hv,BW.u4]⟩
  ·exact .inr ⟨λ q=>q.new b,λ o=>by simp [hv,BW.u4]⟩
  ·exact .inr ⟨λ_=>x,λ o=>by simp [hv,BW.u4]⟩
  ·exact .inr ⟨λ_=>x,λ o=>by simp [hv,BW.u4]⟩
theorem mW {x:AI} {r:DM} {s s':St} (h:QJ C x r s s') {q:Nat} (hs:D7 x.op=some q) {p:Nat} (hp:p≠q) (o:AH):r.own o p=o p:=by
 rcases aJ h hs with h1|⟨b,h1⟩
 ·rw[h1]
 ·rw[h1];simp [AH.put,hp]
theorem mJ (b:Array Nat) (i j:Nat):HN b i j=HN b j i:=by unfold HN;rw[Nat.max_comm,Nat.min_comm]
theorem PL {ops:Array Oper} {l:List AI} (h:PK ops l=true) {i j:Nat} {x y:AI} (hx:l[i]? = some x) (hy:l[j]? = some y) (k8:i≠j) :
  (HN (Region.before ops) i j=true\/((∀ t,y.dst=some t->t ∉ Q4 x)/\(FS x.op=false\/JA y.op=false)/\(TH x.op=true -> ∀ s,D7 y.op=some s->s∈x.b9))) /\
  (HN (Region.before ops) i j=true \/ ∀ s s',D7 x.op=some s->D7 y.op=some s'->s≠s'):=by
 simp only[PK,Bool.and_eq_true]at h;have h1:=h.1.1;rw[List.all_eq_true]at h1;have Wt:(x,i)∈l.zipIdx:=List.mem_zipIdx_iff_getElem?.2 hx;have Ww:(y,j)∈l.zipIdx:=List.mem_zipIdx_iff_getElem?.2 hy;have h2:=h1 (x,i) Wt;simp only at h2;rw[List.all_eq_true]at h2;have h3:=h2 (y,j) Ww;simp only[Bool.and_eq_true,Bool.or_eq_true,beq_iff_eq,k8,false_or]at h3;obtain ⟨h4,h5⟩:=h3;refine ⟨?_,h5.imp id λ h5 s s' hs rl => ?_⟩
 ·unfold mP at h4
  simp only[Bool.or_eq_true,beq_iff_eq,k8,false_or]at h4;refine h4.imp id λ h6 => ?_
  simp only[Bool.and_eq_true,Bool.or_eq_true,Bool.not_eq_true']at h6;obtain ⟨⟨h7,h8⟩,h9⟩:=h6;refine ⟨λ t ht => ?_,h8,λ hr s hs => ?_⟩
  ·rw[ht]at h7
   simpa using h7
  ·rw[hr,hs]at h9
   simpa using h9
 ·rw[hs,rl]at h5
  simpa using h5
structure T5 (C:Cl) (ops:Array Oper) (l:List AI) (σ:Nat->St) (rs:List DM):Prop where
 ok:PK ops l=true
 len:rs.length=l.length
 fits : ∀ (k:Nat) (x:AI) (r:DM),l[k]? = some x->rs[k]? = some r->QJ C x r (σ k) (σ (k+1))
variable {ops:Array Oper} {l:List AI} {σ:Nat->St} {rs:List DM}
theorem Y6 {X:Nat->Bool} : ∀ (l:List DM) (k:Nat) (x:D),(∀ i,i<l.length->X (k+i)=false)->DG X l k x=x
 | [],_,_,_=>rfl
 | r::q,k,x,h=>by
  simp only[DG];rw[show X k=false by simpa using h 0 (by simp)];exact Y6 q (k+1) _ λ i hi=>by
   have:=h (i+1) (by simpa using hi)
   rw[show k+1+i=k+(i+1) by omega];exact this
def d0 (σ:Nat->St):D:=(e9 (σ 0).tm,(σ 0).own)
theorem YC (h:T5 C ops l σ rs) : ∀ k,k<=l.length->DG (λ j=>decide (j<k)) rs 0 (d0 σ)=(e9 (σ k).tm,(σ k).own)
 | 0,_=>Y6 rs 0 _ λ i _=>by simp
 | k+1,hk=>by
  have vi:k<l.length:=by omega
  have Vf:k<rs.length:=by rw[h.len];exact vi
  have hr:rs[k]? = some rs[k]:=zE Vf;have hf:=h.fits k l[k] rs[k] (zE vi) hr;rw[jS (X:=λ j=>decide (j<k)) (X':=λ j=>decide (j<k+1)) hr (by simp) (λ j=>by
   by_cases h1:j=k
   ·simp [h1]
   ·simp [h1];omega) _ (λ j r' _ l6 hX=>by simp at hX;omega),YC h k (by omega)]
  exact hf.act.symm
section
variable {X:Nat->Bool} {i:Nat} {x:AI} {r:DM}
theorem mL (hX:QI ops X) (gl:X i=false) (bj : ∀ o,ops[i]? = some o -> ∀ e∈o.after,Region.binds .any e=true->X e.on=true) {j:Nat} (k8:i≠j) (ho:HN (Region.before ops) i j=true):X j=decide (j<i):=by
 rcases Nat.lt_or_gt_of_ne k8 with l6|ml
 ·have:X j=false:=by
   cases hj:X j with
   | false=>rfl
   | true=>have:=mK hX hj l6 ho;rw[gl]at this;cases this
  rw[this];simp;omega
 ·rw[Qp hX bj ml ho];simp;omega
theorem xT (h:T5 C ops l σ rs) (hx:l[i]? = some x) (hr:rs[i]? = some r) (hX:QI ops X) (gl:X i=false) (bj : ∀ o,ops[i]? = some o -> ∀ e∈o.after,Region.binds .any e=true->X e.on=true) :
  JM (DG X rs 0 (d0 σ)).1 x.guard=some r.g/\(r.g=true->c8 C x.b9 (D9 (DG X rs 0 (d0 σ)).1) (DG X rs 0 (d0 σ)).2 x.op=some r.E) /\
  (if r.g then r.E.valOf (DG X rs 0 (d0 σ)).2 else .j5 [])=r.v /\
  ∀ X':Nat->Bool,(∀ j,X' j=(decide (j=i)||X j))->DG X' rs 0 (d0 σ)=r.act (DG X rs 0 (d0 σ)):=by
 have dk:i<l.length:=(zS hx).1;have hf:=h.fits i x r hx hr;have tn:=YC h i (by omega);generalize hT:DG X rs 0 (d0 σ)=TX;have kv : ∀ (j:Nat) (r':DM),rs[j]? = some r' -> ∃ y,l[j]? = some y/\QJ C y r' (σ j) (σ (j+1)):=λ j r' hj=>by
  have bp:j<l.length:=by rw[<-h.len];exact (zS hj).1
  exact ⟨l[j],zE bp,h.fits j _ _ (zE bp) hj⟩
 have tk : ∀ t∈Q4 x,TX.1 t=e9 (σ i).tm t:=λ t ht=>by
  have:=jU (X:=X) (Y:=λ j=>decide (j<i)) (t:=t) rs 0 (d0 σ) (d0 σ) rfl (λ j r' hj hd=>by
   simp only[Nat.zero_add];by_cases k8:i=j
   ·subst k8;simp [gl]
   ·obtain ⟨y,hy,cw⟩:=kv j r' hj
    rcases (PL h.ok hx hy k8).1 with ho|⟨h1,_⟩
    ·exact mL hX gl bj k8 ho
    ·exact absurd ht (h1 t (by rw[<-cw.d];exact hd)))
  rw[hT,tn]at this;exact this
 have Ax : ∀ t∈FF x.op,TX.1 t=e9 (σ i).tm t:=λ t ht=>tk t (by simp [Q4,ht])
 have cb : ∀ s,(∀ (j:Nat) (y:AI) (r':DM),i≠j->l[j]? = some y->rs[j]? = some r'->HN (Region.before ops) i j=true \/ ∀ o,r'.own o s=o s)->TX.2 s=(σ i).own s:=λ s hs=>by
  have:=jT (X:=X) (Y:=λ j=>decide (j<i)) (s:=s) rs 0 (d0 σ) (d0 σ) rfl (λ j r' hj=>by
   simp only[Nat.zero_add];by_cases k8:i=j
   ·subst k8;left;simp [gl]
   ·obtain ⟨y,hy,cw⟩:=kv j r' hj
    rcases hs j y r' k8 hy hj with ho|ho
    ·exact .inl (mL hX gl bj k8 ho)
    ·exact .inr ho)
  rw[hT,tn]at this;exact this
 have ij : ∀ (j:Nat) (y:AI) (r':DM),l[j]? = some y->rs[j]? = some r'->JA y.op=false -> ∀ o,r'.own o=o:=λ j y r' hy hj hm o=>by
  simp only[JA,Bool.or_eq_false_iff]at hm;exact P3 (h.fits j y r' hy hj) hm.1.1 (by simpa using hm.2) o
 have An : ∀ (j:Nat) (y:AI),i≠j->l[j]? = some y->FS y.op=true->JA x.op=true->HN (Region.before ops) i j=true:=λ j y k8 hy ht gb=>by
  rcases (PL h.ok hy hx (Ne.symm k8)).1 with ho|⟨_,h2,_⟩
  ·rw[mJ];exact ho
  ·rw[ht,gb]at h2;simp at h2
 have hg:JM TX.1 x.guard=some r.g:=by
  rw[<-hf.g];cases xg:x.guard with
  | none=>rfl
  | some gw =>
   obtain ⟨g,w⟩:=gw;simp only[JM];rw[tk g (by simp [Q4,xg])]
 have tt:FS x.op=true->TX.2=(σ i).own:=λ ht=>by
  funext s
  refine cb s λ j y r' k8 hy hj => ?_
  cases hm:JA y.op with
  | false=>exact .inr λ o=>by rw[ij j y r' hy hj hm o]
  | true =>
   rcases (PL h.ok hx hy k8).1 with ho|⟨_,h2,_⟩
   ·exact .inl ho
   ·rw[ht,hm]at h2;simp at h2
 have Al:TH x.op=true->TX.2.l9 x.b9=(σ i).own.l9 x.b9:=λ gq=>by
  refine Kb λ s hs=>cb s λ j y r' k8 hy hj => ?_
  have gb:JA x.op=true:=by simp [JA,gq]
  cases ht:FS y.op with
  | true=>exact .inl (An j y k8 hy ht gb)
  | false =>
   cases fj:D7 y.op with
   | none=>exact .inr λ o=>by rw[P3 (h.fits j y r' hy hj) ht fj o]
   | some q =>
    rcases (PL h.ok hx hy k8).1 with ho|⟨_,_,h3⟩
    ·exact .inl ho
    ·exact .inr λ o=>mW (h.fits j y r' hy hj) fj (p:=s) (λ e=>hs (by rw[e];exact h3 gq q fj)) o
 have ti : ∀ s,D7 x.op=some s->TX.2 s=(σ i).own s:=λ s po=>by
  have gb:JA x.op=true:=by simp [JA,po]
  exact cb s λ j y r' k8 hy hj=>by
   cases ht:FS y.op with
   | true=>exact .inl (An j y k8 hy ht gb)
   | false =>
    cases fj:D7 y.op with
    | none=>exact .inr λ o=>by rw[P3 (h.fits j y r' hy hj) ht fj o]
    | some q =>
     rcases (PL h.ok hx hy k8).2 with ho|vo
     ·exact .inl ho
     ·exact .inr λ o=>mW (h.fits j y r' hy hj) fj (vo s q po fj) o
 have Eg:r.g=true->c8 C x.b9 (D9 TX.1) TX.2 x.op=some r.E:=λ ag=>by
  rw[yA Ax,<-hf.E ag];cases ht:FS x.op with
  | true=>rw[tt ht]
  | false=>exact yD _ _ ht Al ti
 have hval:(if r.g then r.E.valOf TX.2 else .j5 [])=r.v:=by
  rw[hf.v];cases Hv:r.g with
  | false=>rfl
  | true =>
   simp only[if_true];cases po:D7 x.op with
   | none =>
    cases ht:FS x.op with
    | true=>rw[tt ht]
    | false =>
     obtain ⟨v,hv⟩:=hJ (hf.E Hv) ht po;rw[hv];rfl
   | some s =>
    have vo:=ti s po;rcases gZ (hf.E Hv) po with ⟨b,v,hv|hv⟩|⟨x,v,hv|hv⟩<;>rw[hv]<;>simp only[BW.valOf,AH.g7,vo]
 refine ⟨hg,Eg,hval,λ X' qf => ?_⟩;rw[<-hT];refine jS hr gl qf _ λ j r' hj l6 Dt z => ?_
 obtain ⟨y,hy,cw⟩:=kv j r' hj;have k8:i≠j:=by omega
 have xj : ¬ HN (Region.before ops) i j=true:=λ ho=>by
  have:=mK hX Dt l6 ho
  rw[gl]at this;cases this
 obtain ⟨Fa,xm⟩:=PL h.ok hx hy k8;obtain ⟨tf,xp⟩:=PL h.ok hy hx (Ne.symm k8);have hp:=Fa.resolve_left xj;have hq:=tf.resolve_left (by rw[mJ];exact xj);unfold DM.act;refine Prod.ext ?_ ?_
 ·funext t
  simp only[IA];by_cases h1:r'.d=some t<;>by_cases h2:r.d=some t
  ·exact absurd (by rw[hf.d]at h2;simp [Q4,h2]) (hp.1 t (by rw[<-cw.d];exact h1))
  ·simp [h1,h2]
  ·simp [h1,h2]
  ·simp [h1,h2]
 ·show r'.own (r.own z.2)=r.own (r'.own z.2)
  cases gb:JA x.op with
  | false=>rw[ij i x r hx hr gb,ij i x r hx hr gb]
  | true =>
   cases lk:JA y.op with
   | false=>rw[ij j y r' hy hj lk,ij j y r' hy hj lk]
   | true =>
    have Io:FS x.op=false:=by
     rcases hp.2.1 with h1|h1
     ·exact h1
     ·rw[lk]at h1;cases h1
    have Ip:FS y.op=false:=by
     rcases hq.2.1 with h1|h1
     ·exact h1
     ·rw[gb]at h1;cases h1
    cases po:D7 x.op with
    | none=>rw[P3 hf Io po,P3 hf Io po]
    | some s =>
     cases fj:D7 y.op with
     | none=>rw[P3 cw Ip fj,P3 cw Ip fj]
     | some s' =>
      have vo:=(xm.resolve_left xj) s s' po fj;rcases aJ hf po with h1|⟨b,h1⟩
      ·rw[h1,h1]
      ·rcases aJ cw fj with h2|⟨b',h2⟩
       ·rw[h2,h2]
       ·rw[h1,h2,h2,h1]
        funext q
        simp only[AH.put];by_cases Fc:q=s<;>by_cases vm:q=s'
        ·exact absurd (Fc.symm.trans vm) vo
        ·simp [Fc,vo]
        ·simp [vm,Ne.symm vo]
        ·simp [Fc,vm]
end
end
end Go.c4

namespace Go.c4
open Go.RowKit
section
variable {ops:Array Oper} {md:Region.Mode}
theorem tU {e:Edge} (h:Region.binds .any e=true) (md:Region.Mode):Region.binds md e=true:=by
 unfold Region.binds at *;split at h<;>simp_all
theorem lC (ops:Array Oper) (md:Region.Mode) : ∀ (fuel t:Nat) (b8:Array Bool),b8.size=ops.size -> ∀ (k i:Nat),(Region.linearise.go md ops fuel t b8 [])[k]? = some i ->
  ∃ o,ops[i]? = some o /\ ∀ e∈o.after,Region.binds md e=true->b8.getD e.on false=true\/e.on∈(Region.linearise.go md ops fuel t b8 []).take k
 | 0,t,b8,hs,k,i,h=>by simp [Region.linearise.go]at h
 | fuel+1,t,b8,hs,k,i,h=>by
  have lg:Region.linearise.go md ops (fuel+1) t b8 []=match (Region.ready md ops b8)[t%(Region.ready md ops b8).length]? with
   | some i=>i::Region.linearise.go md ops fuel (t/(Region.ready md ops b8).length) (b8.setIfInBounds i true) []
   | none=>[]:=by
   simp only[Region.linearise.go];change (match (Region.ready md ops b8)[t%(Region.ready md ops b8).length]? with
    | some i=>Region.linearise.go md ops fuel (t/(Region.ready md ops b8).length) (b8.setIfInBounds i true) [i]
    | none=>[].reverse)=_
   cases (Region.ready md ops b8)[t%(Region.ready md ops b8).length]? with
   | none=>rfl
   | some i=>simp only[];rw[linearise_go_acc];rfl
  rw[lg]at h ⊢;cases hr:(Region.ready md ops b8)[t%(Region.ready md ops b8).length]? with
  | none=>rw[hr]at h;simp at h
  | some q =>
   rw[hr]at h;simp only at h ⊢;obtain ⟨_,oq,Vx,hq⟩:=mem_ready.1 (zM hr);cases k with
   | zero =>
    simp at h;subst h;exact ⟨oq,Vx,λ e he hb => .inl (hq e he hb)⟩
   | succ k =>
    simp at h;obtain ⟨o,ho,hh⟩:=lC ops md fuel _ _ (by simpa using hs) k i h;refine ⟨o,ho,λ e he hb => ?_⟩;rcases hh e he hb with h1|h1
    ·by_cases heq:e.on=q
     ·right;simp [heq]
     ·left
      rw[getD_set_ne false (Ne.symm heq)]at h1;exact h1
    ·right;simp [h1]
theorem Y0 {p:Nat->Bool} : ∀ (l:List Nat),(∃ i∈l,p i=false) -> ∃ k i,l[k]? = some i/\p i=false /\ ∀ j∈l.take k,p j=true
 | [],⟨i,hi,_⟩=>by simp at hi
 | x::r,⟨i,hi,hp⟩=>by
  cases hx:p x with
  | false=>exact ⟨0,x,rfl,hx,by simp⟩
  | true =>
   have : ∃ i∈r,p i=false:=by
    rcases List.mem_cons.1 hi with h|h
    ·subst h;rw[hx]at hp;cases hp
    ·exact ⟨i,h,hp⟩
   obtain ⟨k,j,h1,h2,h3⟩:=Y0 r this;refine ⟨k+1,j,by simpa using h1,h2,λ q hq => ?_⟩;simp only[List.take_succ_cons,List.mem_cons]at hq;rcases hq with h|h
   ·subst h;exact hx
   ·exact h3 q h
theorem progress {l:List AI} (hd:PK ops l=true) (Ab:md = .gc->Region.departs ops=true) {b8:Array Bool} (hs:b8.size=ops.size) (hr:Region.ready md ops b8=[]) : ∀ j,j<ops.size->b8.getD j false=true:=by
 intro j hj;cases bp:b8.getD j false with
 | true=>rfl
 | false =>
  exfalso;simp only[PK,Bool.and_eq_true]at hd;obtain ⟨⟨_,dz⟩,oz⟩:=hd;have ix : ∀ i,i<ops.size->b8.getD i false=false -> ¬ ∀ o,ops[i]? = some o -> ∀ e∈o.after,Region.binds md e=true->b8.getD e.on false=true:=λ i hi hl jt=>by
   have:i∈Region.ready md ops b8:=mem_ready.2 ⟨by
    have:i<b8.size:=by omega
    simp [Array.getD,this]at hl ⊢;exact hl,ops[i],Array.getElem?_eq_getElem hi,λ e he hb=>jt ops[i] (Array.getElem?_eq_getElem hi) e he hb⟩
   rw[hr]at this;simp at this
  by_cases wz:md = .gc
  ·subst wz
   rw[Ab rfl]at oz;simp only[Bool.not_true,Bool.false_or,List.all_eq_true,List.mem_range,List.contains_iff_mem]at oz;obtain ⟨k,i,h1,h2,h3⟩:=Y0 (p:=λ q=>b8.getD q false) (Region.linearise .gc ops 0) ⟨j,oz j hj,bp⟩;obtain ⟨o,ho,hh⟩:=lC ops .gc ops.size 0 (Array.replicate ops.size false) (by simp) k i h1;have hi:i<ops.size:=(Array.getElem?_eq_some_iff.1 ho).1;refine ix i hi h2 λ o' ri e he hb => ?_
   rw[ho]at ri;obtain rfl:o=o':=by simpa using ri
   rcases hh e he hb with h4|h4
   ·simp [Array.getD]at h4
   ·exact h3 e.on h4
  ·obtain ⟨k,i,h1,h2,h3⟩:=Y0 (p:=λ q=>b8.getD q false) (List.range ops.size) ⟨j,by simpa using hj,bp⟩
   have zr:i=k:=by
    have vi:k<ops.size:=by have:=(zS h1).1;simpa using this
    rw[List.getElem?_range vi]at h1;simpa using h1.symm
   subst zr;have hi:i<ops.size:=by have:=(zS h1).1;simpa using this
   refine ix i hi h2 λ o ho e he hb => ?_
   rw[List.all_eq_true]at dz;have ga:(o,i)∈ops.toList.zipIdx:=List.mem_zipIdx_iff_getElem?.2 (by simpa using ho);have h4:=dz (o,i) ga;simp only[Array.all_eq_true_iff_forall_mem,Bool.or_eq_true,decide_eq_true_eq]at h4;rcases h4 e he with h5|h5
   ·exact h3 e.on (by rw[List.take_range];simp;omega)
   ·exfalso
    unfold Region.binds at hb;split at h5
    ·rename_i row Fh
     rw[Fh]at hb;simp at hb;exact wz hb
    ·cases h5
variable {B:Nat} {S:Nat->Prop} {w0:World} {m0:M} {N:Nat}
variable {P:Program} {num:Nat->Nat} {C:Cl} {Q:Exit->Act->World->Prop}
def QB (b8:Array Bool) (n:Nat):Nat:=(List.range n).countP (λ j => !b8.getD j false)
theorem fI {α:Type} {p q:α->Bool} : ∀ {l:List α} {x:α},(∀ y∈l,q y=true->p y=true)->x∈l->p x=true->q x=false->l.countP q<l.countP p
 | [],x,_,hx,_,_=>by simp at hx
 | y::r,x,h,hx,hp,hq=>by
  have hle:r.countP q<=r.countP p:=List.countP_mono_left λ z hz Wc=>h z (by simp [hz]) Wc
  rw[List.countP_cons,List.countP_cons];rcases List.mem_cons.1 hx with rfl|hx
  ·simp only[hp,hq,if_true,Bool.false_eq_true,if_false]
   omega
  ·have:=fI (l:=r) (λ z hz=>h z (by simp [hz])) hx hp hq
   by_cases Fe:q y=true
   ·simp only[Fe,h y (by simp) Fe,if_true];omega
   ·simp only[Fe,Bool.false_eq_true,if_false]
    split<;>omega
theorem Rp (hC:G0 P num C) {l:List AI} (g8:NV P num N ops ops.toList l=true) {σ:Nat->St} {rs:List DM} (h:T5 C ops l σ rs) (Ab:md = .gc->Region.departs ops=true)
  (hQ : ∀ m' a',m'.own=(σ l.length).own->E0 B S w0 m0 N (e9 (σ l.length).tm) m' a'->Q .normal a' m'.w) :
  ∀ (fuel:Nat) (b8:Array Bool) (a:Act) (m:M),b8.size=ops.size->QB b8 ops.size<=fuel->QI ops (λ j=>b8.getD j false)->m.own=(DG (λ j=>b8.getD j false) rs 0 (d0 σ)).2->E0 B S w0 m0 N (DG (λ j=>b8.getD j false) rs 0 (d0 σ)).1 m a->wpAny P md ops Q fuel b8 a m.w:=by
 have hlen:ops.size=l.length:=by have:=(S9 g8).1;simpa using this
 have final : ∀ (b8:Array Bool) (a:Act) (m:M),(∀ j,j<ops.size->b8.getD j false=true)->m.own=(DG (λ j=>b8.getD j false) rs 0 (d0 σ)).2->E0 B S w0 m0 N (DG (λ j=>b8.getD j false) rs 0 (d0 σ)).1 m a->Q .normal a m.w:=λ b8 a m jt j6 hf=>by
  have:DG (λ j=>b8.getD j false) rs 0 (d0 σ)=(e9 (σ l.length).tm,(σ l.length).own):=by
   rw[<-YC h l.length (Nat.le_refl _)];refine VM rs 0 _ λ i hi => ?_
   simp only[Nat.zero_add];rw[jt i (by rw[hlen,<-h.len];exact hi)];simp;rw[<-h.len];exact hi
  rw[this]at j6 hf;exact hQ m a j6 hf
 have ye : ∀ b8:Array Bool,QB b8 ops.size<=0 -> ∀ j,j<ops.size->b8.getD j false=true:=λ b8 h0 j hj=>by
  have h1:QB b8 ops.size=0:=by omega
  unfold QB at h1;rw[List.countP_eq_zero]at h1;simpa using h1 j (by simpa using hj)
 intro fuel;induction fuel with
 | zero =>
  intro b8 a m o9 hn Ed j6 hf;refine ⟨?_,final b8 a m (ye b8 hn) j6 hf⟩;cases hr:Region.ready md ops b8 with
  | nil=>rfl
  | cons i r =>
   obtain ⟨h1,o,ho,_⟩:=mem_ready.1 (show i∈Region.ready md ops b8 by rw[hr];simp);have hi:i<ops.size:=(Array.getElem?_eq_some_iff.1 ho).1;have h2:=ye b8 hn i hi;have dk:i<b8.size:=by omega
   simp [Array.getD,dk]at h1 h2;rw[h1]at h2;cases h2
 | succ fuel ih =>
  intro b8 a m o9 hn Ed j6 hf;refine ⟨λ hr=>final b8 a m (progress h.ok Ab o9 hr) j6 hf,λ i hi => ?_⟩;obtain ⟨h1,o,ho,ve⟩:=mem_ready.1 hi;have Uy:i<ops.size:=(Array.getElem?_eq_some_iff.1 ho).1;have dk:i<b8.size:=by omega
  have lj:b8.getD i false=false:=by
   simp [Array.getD,dk]at h1 ⊢;exact h1
  have qj:i<l.length:=by omega
  have df:i<rs.length:=by rw[h.len];exact qj
  have hx:l[i]? = some l[i]:=zE qj;have hr:rs[i]? = some rs[i]:=zE df;have bj : ∀ o',ops[i]? = some o' -> ∀ e∈o'.after,Region.binds .any e=true->b8.getD e.on false=true:=λ o' ri e he hb=>by
   rw[ho]at ri;obtain rfl:o=o':=by simpa using ri
   exact ve e he (tU hb md)
  obtain ⟨g1,g2,g3,g4⟩:=xT h hx hr Ed lj bj;have Ey:=(S9 g8).2 i o l[i] (by simpa using ho) hx;have qf : ∀ j,(b8.setIfInBounds i true).getD j false=(decide (j=i)||b8.getD j false):=λ j=>by
   by_cases El:j=i
   ·subst El;simp [Array.getD,dk]
   ·rw[getD_set_ne false (Ne.symm El)];simp [El]
  refine pJ hC ho Ey hf g1 (λ hg=>by rw[j6];exact g2 hg) λ m' a' fu ic => ?_
  have gd:=g4 _ qf;refine ih (b8.setIfInBounds i true) a' m' (by simpa using o9) ?_ ?_ ?_ ?_
  ·have l6:QB (b8.setIfInBounds i true) ops.size<QB b8 ops.size:=by
    refine fI (x:=i) (λ j _ hj => ?_) (by simpa using Uy) (by simp [lj]) (by rw[qf];simp);rw[qf]at hj;simp at hj ⊢;exact hj.2
   omega
  ·intro j oj hj Ce e he hb
   change (b8.setIfInBounds i true).getD j false=true at hj;show (b8.setIfInBounds i true).getD e.on false=true;rw[qf]at hj ⊢;simp only[Bool.or_eq_true,decide_eq_true_eq]at hj ⊢;rcases hj with rfl|hj
   ·exact .inr (bj oj Ce e he hb)
   ·exact .inr (Ed j oj hj Ce e he hb)
  ·rw[gd,fu,j6]
   rfl
  ·rw[gd]
   rw[j6,g3]at ic;have hd:(l[i]).dst=(rs[i]).d:=(h.fits i _ _ hx hr).d.symm;rw[hd]at ic;exact ic
theorem Rq (hC:G0 P num C) {id:Nat} {l:List AI} (g8:NV P num N ops ops.toList l=true) (hd:PK ops l=true) {st j7:St} (j9:C6 C l st=some j7) {m:M} {a:Act} (j6:m.own=st.own) (hf:E0 B S w0 m0 N (e9 st.tm) m a)
  (hQ : ∀ m' a',m'.own=j7.own->E0 B S w0 m0 N (e9 j7.tm) m' a'->Q .normal a' m'.w):(Code.region id ops true).wp P Q a m.w:=by
 obtain ⟨σ,rs,h0,h1,hl,h2⟩:=trace j9;have hD:T5 C ops l σ rs:=⟨hd,hl,h2⟩;obtain ⟨eh,qi⟩:=grow hf.mem ((Below.refl m.w.heap.size m.w).drew);have oo:E0 B S w0 m0 N (e9 st.tm) ⟨m.ν,m.own,m.w.drew⟩ a:=⟨eh,hf.ext.trans qi,λ i=>qi.cv (hf.tm i),hf.size,hf.defers⟩;have Bk:DG (λ j=>(Array.replicate ops.size false).getD j false) rs 0 (d0 σ)=d0 σ:=Y6 rs 0 _ λ i _=>by simp [Array.getD]
 have key : ∀ md:Region.Mode,(md = .gc->Region.departs ops=true) -> ∀ t,wpOps P ops Q (Region.linearise md ops t) a m.w.drew:=λ md Ab t=>by
  refine wpAny_sound ops.size t (Array.replicate ops.size false) a m.w.drew ?_;refine Rp hC g8 hD Ab (by rw[h1];exact hQ) ops.size _ a ⟨m.ν,m.own,m.w.drew⟩ (by simp) ?_ ?_ ?_ ?_
  ·unfold QB
   exact Nat.le_trans List.countP_le_length (by simp)
  ·intro j o hj
   simp [Array.getD]at hj
  ·rw[Bk];simp [d0,h0,j6]
  ·rw[Bk];simpa [d0,h0] using oo
 refine wp_region_draw λ t => ?_
 change wpOps P ops Q _ a m.w.drew;unfold Region.schedule;split
 ·exact key .any (λ h=>by cases h) t
 ·rename_i zn
  have Hq:Region.departs ops=true:=by simp at zn;exact zn.2
  split
  ·exact key .text (λ_=>Hq) _
  ·exact key .gc (λ_=>Hq) _
end
end Go.c4

namespace Go.c4
open Go.RowKit
section
variable {B:Nat} {S:Nat->Prop} {w0:World} {m0:M} {N:Nat}
variable {P:Program} {num:Nat->Nat} {C:Cl}
theorem Rc (m:Tm) (l:List Nat) (j:Nat):e9 (v7 m l) j=e9 m j\/e9 (v7 m l) j = .any:=by
 induction m with
 | nil=>exact .inl rfl
 | cons x r ih =>
  obtain ⟨i,v⟩:=x;simp only[v7];split
  ·by_cases h:j=i
   ·subst h
    rename_i hc;right
    clear ih;induction r with
    | nil=>rfl
    | cons y q ih =>
     obtain ⟨k,u⟩:=y;simp only[v7];split
     ·exact ih
     ·rename_i hk
      have : ¬ j=k:=λ e=>by subst e;exact hk hc
      simp only[e9,if_neg this];exact ih
   ·rcases ih with h1|h1
    ·left;simp only[e9,if_neg h];exact h1
    ·right;exact h1
  ·by_cases h:j=i
   ·left;simp [e9,h]
   ·simp only[e9,if_neg h]
    exact ih
inductive HF (P:Program) (num:Nat->Nat) (N:Nat):List It->List Item->Prop
 | nil:HF P num N [] []
 | code {c:Code} {a:BC} {k:List It} {t:List Item} (h:EH P num N c a=true) (hk:HF P num N k t):HF P num N (.code a::k) (.code c::t)
 | drop {ts ss:List Nat} {k:List It} {t:List Item} (hk:HF P num N k t):HF P num N (.iz ts ss::k) t
 | e8 {id:Nat} {k:List It} {t:List Item} (hk:HF P num N k t):HF P num N (.e8 id::k) (.inBlock id::t)
 | lp {c:Code} {a:BC} {k:List It} {t:List Item} (h:EH P num N c a=true) (hk:HF P num N k t):HF P num N (.lp a::k) (.inLoop c::t)
 | scope {c:Code} {k:List It} {t:List Item} (hk:HF P num N k t):HF P num N k (.inScope c::t)
theorem oN {b:Frame} {a:Act} {k:List Item} {cs:List Frame} {w:World} {c:Code}:step P (lone (b.at a (.inScope c::k)) cs w) = .next (lone (b.at a k) cs w) :=
 step_lone_go (by simp [stepG,stepG.exec,Frame.at])
theorem So {b:Frame} {a:Act} {k:List Item} {cs:List Frame} {w:World} {c:Code}:step P (lone (b.at a (.code (.scope c)::k)) cs w) = .next (lone (b.at a (.code c :: .inScope c::k)) cs w) :=
 step_lone_go (by simp [stepG,stepG.exec,Frame.at])
theorem Q1 {id:Nat} : ∀ {k:List It} {t:List Item},HF P num N k t -> ∀ {k':List It},EX id k=some k' -> ∃ t',exitTo id t=some t'/\HF P num N k' t'
 | _,_,.nil,k',h=>by simp [EX]at h
 | _,_,.code h0 hk,k',h=>by
  simp only[EX]at h;obtain ⟨t',h1,h2⟩:=Q1 hk h;exact ⟨t',by simpa [exitTo] using h1,h2⟩
 | _,_,.drop hk,k',h=>by
  simp only[EX]at h;exact Q1 hk h
 | _,_,.e8 (id:=Cs) hk,k',h=>by
  simp only[EX]at h;split at h
  ·rename_i he
   subst he;simp only[Option.some.injEq]at h;subst h;exact ⟨_,by simp [exitTo],hk⟩
  ·rename_i he
   obtain ⟨t',h1,h2⟩:=Q1 hk h;exact ⟨t',by simpa [exitTo,he] using h1,h2⟩
 | _,_,.lp h0 hk,k',h=>by
  simp only[EX]at h;obtain ⟨t',h1,h2⟩:=Q1 hk h;exact ⟨t',by simpa [exitTo] using h1,h2⟩
 | _,_,.scope hk,k',h=>by
  obtain ⟨t',h1,h2⟩:=Q1 hk h;exact ⟨t',by simpa [exitTo] using h1,h2⟩
def cS (B:Nat) (S:Nat->Prop) (w0:World) (m0:M) (N:Nat) (P:Program) (b:Frame) (cs:List Frame) (Gj:Machine) (j7:St):Prop :=
 ∃ a' m' m5,Steps P Gj (lone { b.at a' m5 with mode := .returning } cs m'.w)/\m'.own=j7.own/\E0 B S w0 m0 N (e9 j7.tm) m' a'
theorem Oz (hC:G0 P num C) (b:Frame) (cs:List Frame) : ∀ (n:Nat) (k:List It) (st j7:St),run C n k st=some j7 -> ∀ (t:List Item),HF P num N k t -> ∀ (m:M) (a:Act),m.own=st.own->E0 B S w0 m0 N (e9 st.tm) m a ->
  cS B S w0 m0 N P b cs (lone (b.at a t) cs m.w) j7:=by
 intro n;induction n with
 | zero=>intro k st j7 h;simp [run]at h
 | succ n ih =>
  intro k st j7 h t ht;have fin : ∀ (t:List Item),HF P num N [] t -> ∀ (m:M) (a:Act),m.own=st.own->E0 B S w0 m0 N (e9 st.tm) m a->st=j7->cS B S w0 m0 N P b cs (lone (b.at a t) cs m.w) j7:=by
   intro t ht;generalize hk:([]:List It)=kk at ht;induction ht with
   | nil =>
    intro m a j6 hf he;subst he;exact ⟨a,m,[],.one step_end,j6,hf⟩
   | scope dn jg =>
    intro m a j6 hf he;obtain ⟨a',m',m5,h1,h2⟩:=jg hk m a j6 hf he;exact ⟨a',m',m5,.head oN h1,h2⟩
   | code=>cases hk
   | drop=>cases hk
   | e8=>cases hk
   | lp=>cases hk
  cases k with
  | nil =>
   intro m a j6 hf;simp only[run,Option.some.injEq]at h;exact fin t ht m a j6 hf h
  | cons it k =>
   generalize fe:it::k=kk at ht;induction ht with
   | nil=>cases fe
   | scope dn jg =>
    intro m a j6 hf;obtain ⟨a',m',m5,h1,h2⟩:=jg fe m a j6 hf;exact ⟨a',m',m5,.head oN h1,h2⟩
   | @e8 id k2 t2 dn jg =>
    intro m a j6 hf;obtain ⟨rfl,rfl⟩:it = .e8 id/\k=k2:=by simpa using fe
    simp only[run]at h;obtain ⟨a',m',m5,h1,h2⟩:=ih k st j7 h t2 dn m a j6 hf;exact ⟨a',m',m5,.head step_inBlock h1,h2⟩
   | @lp c ac k2 t2 g8 dn jg =>
    intro m a j6 hf;obtain ⟨rfl,rfl⟩:it = .lp ac/\k=k2:=by simpa using fe
    simp only[run]at h;obtain ⟨a',m',m5,h1,h2⟩:=ih _ st j7 h (.code c :: .inLoop c::t2) (.code g8 (.lp g8 dn)) m a j6 hf;exact ⟨a',m',m5,.head step_inLoop h1,h2⟩
   | @drop ts ss k2 t2 dn jg =>
    intro m a j6 hf;obtain ⟨rfl,rfl⟩:it = .iz ts ss/\k=k2:=by simpa using fe
    simp only[run]at h;obtain ⟨gp,he⟩:=xU hf.mem ss;have ic:E0 B S w0 m0 N (e9 (v7 st.tm ts)) ⟨m.ν,m.own.drop ss,m.w⟩ a:=⟨gp,hf.ext.trans he,λ i=>by
     rcases Rc st.tm ts i with h1|h1
     ·rw[h1];exact he.cv (hf.tm i)
     ·rw[h1];exact .any _,hf.size,hf.defers⟩
    obtain ⟨a',m',m5,h1,h2,h3⟩:=ih k ⟨v7 st.tm ts,st.own.drop ss⟩ j7 h t2 dn ⟨m.ν,m.own.drop ss,m.w⟩ a (by simp [j6]) ic;exact ⟨a',m',m5,h1,h2,h3⟩
   | @code c ac k2 t2 g8 dn jg =>
    obtain ⟨rfl,rfl⟩:it = .code ac/\k=k2:=by simpa using fe
    clear jg fe;intro m a j6 hf;cases ac with
    | dr ac ts ss =>
     simp only[EH]at g8;simp only[run]at h;exact ih _ st j7 h _ (.code g8 (.drop dn)) m a j6 hf
    | skip =>
     simp only[run]at h;cases c with
     | skip =>
      obtain ⟨a',m',m5,h1,h2⟩:=ih _ st j7 h _ dn m a j6 hf;exact ⟨a',m',m5,.head step_skip h1,h2⟩
     | label =>
      obtain ⟨a',m',m5,h1,h2⟩:=ih _ st j7 h _ dn m a j6 hf;exact ⟨a',m',m5,.head step_label h1,h2⟩
     | _=>simp [EH]at g8
    | scope ac =>
     simp only[run]at h;cases c with
     | scope c =>
      simp only[EH]at g8;obtain ⟨a',m',m5,h1,h2⟩:=ih _ st j7 h _ (.code g8 (.scope (c:=c) dn)) m a j6 hf;exact ⟨a',m',m5,.head So h1,h2⟩
     | _=>simp [EH]at g8
    | seq a1 a2 =>
     simp only[run]at h;cases c with
     | seq c1 c2 =>
      simp only[EH,Bool.and_eq_true]at g8;obtain ⟨a',m',m5,h1,h2⟩:=ih _ st j7 h _ (.code g8.1 (.code g8.2 dn)) m a j6 hf;exact ⟨a',m',m5,.head step_seq h1,h2⟩
     | _=>simp [EH]at g8
    | cond x a1 a2 =>
     simp only[run]at h;cases c with
     | cond xc c1 c2 =>
      simp only[EH,Bool.and_eq_true]at g8;have q6:CV B S m (st.ev x) (a.eval xc):=by rw[iI];exact hf.says xc x g8.1.1
      split at h
      ·rename_i hx
       rw[hx]at q6;obtain ⟨a',m',m5,h1,h2⟩:=ih _ st j7 h _ (.code g8.1.2 dn) m a j6 hf;exact ⟨a',m',m5,.head (step_cond (PH q6)) h1,h2⟩
      ·rename_i hx
       rw[hx]at q6;obtain ⟨a',m',m5,h1,h2⟩:=ih _ st j7 h _ (.code g8.2 dn) m a j6 hf;exact ⟨a',m',m5,.head (step_cond (PH q6)) h1,h2⟩
      ·cases h
     | _=>simp [EH]at g8
    | block id ac =>
     simp only[run]at h;cases c with
     | block Cs c =>
      simp only[EH,Bool.and_eq_true,beq_iff_eq]at g8;obtain ⟨rfl,g8⟩:=g8;obtain ⟨a',m',m5,h1,h2⟩:=ih _ st j7 h _ (.code g8 (.e8 dn)) m a j6 hf;exact ⟨a',m',m5,.head step_block h1,h2⟩
     | _=>simp [EH]at g8
    | loop ac =>
     simp only[run]at h;cases c with
     | loop c =>
      simp only[EH]at g8;obtain ⟨a',m',m5,h1,h2⟩:=ih _ st j7 h _ (.code g8 (.lp g8 dn)) m a j6 hf;exact ⟨a',m',m5,.head step_loop h1,h2⟩
     | _=>simp [EH]at g8
    | exit id =>
     simp only[run]at h;cases c with
     | exit Cs =>
      simp only[EH,beq_iff_eq]at g8;subst g8;split at h
      ·rename_i k' fh
       obtain ⟨t',e1,e2⟩:=Q1 dn fh;obtain ⟨a',m',m5,h1,h2⟩:=ih _ st j7 h _ e2 m a j6 hf;exact ⟨a',m',m5,.head (step_exit e1) h1,h2⟩
      ·cases h
     | _=>simp [EH]at g8
    | ret =>
     simp only[run,Option.some.injEq]at h;subst h;cases c with
     | ret=>exact ⟨a,m,.code .ret::t2,.one step_ret,j6,hf⟩
     | _=>simp [EH]at g8
    | ops l draw =>
     simp only[run]at h;split at h
     ·rename_i A7 Au
      cases c with
      | region id ops ko =>
       simp only[EH,Bool.and_eq_true,beq_iff_eq]at g8;obtain ⟨⟨rfl,Ad⟩,jv⟩:=g8;have Wp:(Code.region id ops ko).wp P (λ e a' w'=>e = .normal /\ ∃ m',m'.w=w'/\m'.own=A7.own/\E0 B S w0 m0 N (e9 A7.tm) m' a') a m.w:=by
        cases ko with
        | true=>exact Rq hC Ad (by simpa using jv) Au j6 hf λ m' a' h1 h2=>⟨rfl,m',rfl,h1,h2⟩
        | false =>
         refine wp_region ?_;rw[List.range_eq_range'];exact pK hC Ad ops.size 0 st A7 m a (by omega) (by simpa using Au) j6 hf λ m' a' h1 h2=>⟨rfl,m',rfl,h1,h2⟩
       obtain ⟨e,a1,w1,⟨rfl,m1,rfl,Ae,oo⟩,Dz⟩:=Wp b t2 cs;obtain ⟨a',m',m5,h1,h2,h3⟩:=ih _ A7 j7 h _ dn m1 a1 Ae oo;exact ⟨a',m',m5,Steps.trans Dz h1,h2,h3⟩
      | _=>simp [EH]at g8
     ·cases h
end
end Go.c4

namespace Go.c4
open Go.RowKit
section
variable {P:Program} {num:Nat->Nat} {L:Lib}
def ProgOK (P : Program) (num : Nat → Nat) (L : Lib) : Prop := (∀ f fa, L f = some fa → ∃ fn, P.funcs[num f]? = some fn ∧ okFn P num fn fa = true ∧ (fn.name == "runtime.NumGoroutine") = false) ∧ L.num = num
theorem kJ : ∀ (args:List AV) (k i:Nat),e9 (CH k args) i=if k<=i then (match args[i-k]? with|some v=>v|none => .any) else .any
 | [],k,i=>by simp [CH,e9]
 | v::r,k,i=>by
  simp only[CH,e9];by_cases h:i=k
  ·subst h;simp
  ·rw[if_neg h,kJ r (k+1) i]
   by_cases h2:k<=i
   ·rw[if_pos h2,if_pos (by omega)]
    have:i-k=(i-(k+1))+1:=by omega
    rw[this];simp
   ·rw[if_neg h2,if_neg (by omega)]
section
variable {B:Nat} {S:Nat->Prop} {w0:World} {m0:M} {N:Nat}
def V5 (tmps:Array Value):ResultVar->Sem Value
 | .tmp t=>pure (tmps.getD t undef)
 | .cell x t=>do loadVar t (<-asAddr (tmps.getD x undef))
theorem tY {m:M} {x v:AV} {u:Value} (h:H8 x=some v) (q6:CV B S m x u):CA B S m v u:=by
 cases q6 with
 | any=>simp [H8]at h
 | j5=>simp [H8]at h
 | ca hc =>
  have:x=v:=by
   cases hc with
   | one hc=>cases hc with
    | rd hr=>cases hr<;>simpa [H8] using h
    | _=>simpa [H8] using h
   | fn=>simpa [H8] using h
   | agg=>simpa [H8] using h
  subst this;exact hc
theorem aN {m:M} {a:Act} {st:St} (hf:E0 B S w0 m0 N (e9 st.tm) m a) (j6:m.own=st.own) : ∀ {rv:List ResultVar} {ra:List ID} {vs:List AV},KI P rv ra=true->ra.mapM (EQ st)=some vs ->
  ∃ us:List Value,(rv.mapM (V5 a.tmps)).run P m.w = .ok us m.w/\vs.length=us.length /\ ∀ (j:Nat) (c:AV) (v:Value),vs[j]? = some c->us[j]? = some v->CA B S m c v
 | [],[],vs,_,h=>by
  simp at h;subst h;exact ⟨[],by simp,rfl,λ j c v hc=>by simp at hc⟩
 | .tmp t::r,.tmp t'::l,vs,g8,h=>by
  simp only[KI,Bool.and_eq_true,beq_iff_eq]at g8;obtain ⟨rfl,g8⟩:=g8;simp only[List.mapM_cons,Option.bind_eq_bind,Option.pure_def]at h;cases hv:EQ st (.tmp t) with
  | none=>simp [hv]at h
  | some v =>
   cases hr:l.mapM (EQ st) with
   | none=>simp [hv,hr]at h
   | some vr =>
    simp [hv,hr]at h;subst h;obtain ⟨us,h1,h2,h3⟩:=aN hf j6 g8 hr;have q6:=hf.tm t;have mg:CA B S m v (a.tmps.getD t undef):=tY hv q6;refine ⟨a.tmps.getD t undef::us,?_,by simp [h2],λ j c u hc hu => ?_⟩
    ·simp only[List.mapM_cons,Sem.run_bind,V5,Sem.run_pure,Result.andThen_ok,h1]
    ·cases j with
     | zero =>
      obtain rfl:v=c:=by simpa using hc
      obtain rfl:a.tmps.getD t undef=u:=Option.some.inj hu;exact mg
     | succ j=>exact h3 j c u (by simpa using hc) (by simpa using hu)
 | .cell x t::r,.cell x' agg n::l,vs,g8,h=>by
  simp only[KI,Bool.and_eq_true,beq_iff_eq]at g8;obtain ⟨⟨⟨rfl,ch⟩,hn⟩,g8⟩:=g8;simp only[List.mapM_cons,Option.bind_eq_bind,Option.pure_def]at h;cases hv:EQ st (.cell x agg n) with
  | none=>simp [hv]at h
  | some v =>
   cases hr:l.mapM (EQ st) with
   | none=>simp [hv,hr]at h
   | some vr =>
    simp [hv,hr]at h;subst h;obtain ⟨us,h1,h2,h3⟩:=aN hf j6 g8 hr;have q6:=hf.tm x;simp only[EQ]at hv;split at hv
    ·rename_i s u i j hx
     rw[hx]at q6;split at hv
     ·rename_i cs fq
      rw[<-j6]at fq;obtain ⟨ad,u6,ht,hb⟩:=QP q6;obtain ⟨b,g,arr,e,l7,hg,w7,gv,n6,et⟩:=mO hf.mem fq;obtain ⟨Un,cp⟩:=S7 hv n6;have Vh:=aP (P:=P) t agg n (UP (by simpa using ch)) (by
       cases agg
       ·simpa using hn
       ·exact IB (by simpa using hn)) ad w7 gv m.w (λ q u' hq=>by
       have l6:q<w7.length:=(zS hq).1;obtain ⟨vh,fr⟩:=hg (by omega);obtain ⟨g',ag,rfl⟩:=hb b l7;obtain rfl:g=g':=by rw[vh]at ag;simpa using ag
       rw[GO,UV fr];exact et q u' hq)
      have Eo:(V5 a.tmps (.cell x t)).run P m.w = .ok (if agg then .agg w7.toArray else w7.getD 0 undef) m.w:=by
       show (do loadVar t (<-asAddr (a.tmps.getD x undef)):Sem Value).run P m.w=_;rw[u6];simpa [asAddr,Instr.loadAt,Instr.sureAddr] using Vh
      have mg:CA B S m v (if agg then .agg w7.toArray else w7.getD 0 undef):=by
       unfold H6 at hv;cases agg with
       | true =>
        simp only[if_true,Option.some.injEq]at hv;subst hv;exact .agg cs w7 n6
       | false =>
        simp only[Bool.false_eq_true,if_false]at hv ⊢;split at hv
        ·rename_i c
         simp only[Option.some.injEq]at hv;subst hv;obtain ⟨u',bq,q9⟩:=QO n6 (j:=0) (c:=c) rfl;simp only[List.getD,bq,Option.getD_some];exact .one q9
        ·cases hv
      refine ⟨(if agg then .agg w7.toArray else w7.getD 0 undef)::us,?_,by simp [h2],λ j' c u' hc hu => ?_⟩
      ·rw[List.mapM_cons,Sem.run_bind,Eo,Result.andThen_ok,Sem.run_bind,h1,Result.andThen_ok]
       rfl
      ·cases j' with
       | zero =>
        obtain rfl:v=c:=by simpa using hc
        obtain rfl:=Option.some.inj hu;exact mg
       | succ j'=>exact h3 j' c u' (by simpa using hc) (by simpa using hu)
     ·cases hv
    ·cases hv
 | [],_::_,_,g8,_=>by simp [KI]at g8
 | .tmp _::_,[],_,g8,_=>by simp [KI]at g8
 | .cell _ _::_,[],_,g8,_=>by simp [KI]at g8
 | .tmp _::_,.cell _ _ _::_,_,g8,_=>by simp [KI]at g8
 | .cell _ _::_,.tmp _::_,_,g8,_=>by simp [KI]at g8
end
theorem dZ (hP:ProgOK P num L) {f:Nat} {fa:AFn} (hL:L f=some fa) (us:Array Value) (w:World):(callFunc (num f) us).run P w = .ok (.enter (num f) us) w:=by
 obtain ⟨fn,h1,h2,h3⟩:=hP.1 f fa hL;have hb:fn.body.isNone=false:=by
  simp only[okFn,Bool.and_eq_true]at h2;cases Uh:fn.body with
  | none=>rw[Uh]at h2;simp at h2
  | some c=>rfl
 unfold callFunc;simp only[Sem.run_bind,run_program,Result.andThen_ok,h1,h3,hb,Bool.false_eq_true,if_false,Sem.run_pure]
theorem kK (hP:ProgOK P num L) {n:Nat} (hC:G0 P num (C8 L n)) {f:Nat} {vs:List AV} {own:AH} {r:AV} {l8:AH} (h:DD L (n+1) f vs own=some (r,l8)) (B:Nat) (S:Nat->Prop) (w0:World) (m:M) (us:List Value) (j6:m.own=own) (hm:BI B S w0 m) (hl:vs.length=us.length)
  (q6 : ∀ (j:Nat) (c:AV) (v:Value),vs[j]? = some c->us[j]? = some v->CV B S m c v) :
  Calls P (num f) us.toArray m.w λ e w' => ∃ u m',e = .returned u/\m'.w=w'/\m'.own=l8/\BI B S w0 m'/\C7 B S m m'/\CV B S m' r u:=by
 rw[SK]at h;cases hL:L f with
 | none=>simp [hL]at h
 | some fa =>
  simp only[hL]at h;split at h
  ·rename_i Af
   split at h
   ·rename_i st m6
    split at h
    ·rename_i Jr jy
     simp only[Option.some.injEq,Prod.mk.injEq]at h;obtain ⟨rfl,rfl⟩:=h;obtain ⟨fn,h1,h2,h3⟩:=hP.1 f fa hL;simp only[okFn,Bool.and_eq_true,beq_iff_eq,decide_eq_true_eq]at h2;obtain ⟨⟨⟨h4,h5⟩,h6⟩,h7⟩:=h2;split at h7
     ·rename_i c hc
      intro cs;have vf:Frame.enter P (num f) us.toArray .normal=({ (default:Frame) with fn:=num f,kind := .normal }:Frame).at { tmps:=us.toArray++Array.replicate (fn.ntmps-us.toArray.size) undef,defers:=[] } [.code c]:=by
       simp [Frame.enter,Frame.at,h1,hc]
      have o9:us.length=fa.v9:=by rw[<-hl];exact Af
      have Ut:E0 B S w0 m fn.ntmps (e9 (CH 0 vs)) m { tmps:=us.toArray++Array.replicate (fn.ntmps-us.toArray.size) undef,defers:=[] }:=by
       refine ⟨hm,C7.refl m,λ i => ?_,by simp;omega,rfl⟩;rw[kJ];simp only[Nat.zero_le,if_true,Nat.sub_zero];cases Is:vs[i]? with
       | none=>exact .any _
       | some v =>
        have hi:i<us.length:=by rw[<-hl];exact (zS Is).1
        have l7:(us.toArray++Array.replicate (fn.ntmps-us.toArray.size) undef).getD i undef=us[i]:=by
         rw[Array.getD_eq_getD_getElem?,Array.getElem?_append_left (by simpa using hi)];simp [hi]
        simp only[l7];exact q6 i v us[i] Is (zE hi)
      obtain ⟨a',m',m5,vp,fu,ic⟩:=Oz (m0:=m) hC { (default:Frame) with fn:=num f,kind := .normal } cs n [.code fa.body] ⟨CH 0 vs,own⟩ st m6 [.code c] (.code h7 .nil) m _ j6 Ut;obtain ⟨qu,Wn,xu,Iq⟩:=aN (P:=P) ic fu h6 jy;have rk:(results fn a'.tmps).run P m'.w = .ok (if h:qu.length=1 then qu[0] else .tuple qu.toArray) m'.w:=by
       have hr:results fn a'.tmps=(do let vs <-fn.results.mapM (V5 a'.tmps);pure (if h:vs.size=1 then vs[0] else .tuple vs)):=rfl;rw[hr,Sem.run_bind,Array.mapM_eq_mapM_toList];simp [Wn]
      refine ⟨.returned (if h:qu.length=1 then qu[0] else .tuple qu.toArray),m'.w,_,⟨_,m',rfl,rfl,fu,ic.mem,ic.ext,?_⟩,by rw[vf];exact vp,rfl,rfl,ic.defers,rfl,fn,h1,rk⟩;unfold G8;split
      ·rename_i v
       have qz:qu.length=1:=by rw[<-xu];rfl
       rw[dif_pos qz];exact .ca (Iq 0 v qu[0] rfl (zE (by omega)))
      ·rename_i k8
       have qz : ¬ qu.length=1:=λ e=>by
        rw[<-xu]at e;cases Jr with
        | nil=>simp at e
        | cons q qs=>cases qs with
         | nil=>exact k8 q rfl
         | cons=>simp at e
       rw[dif_neg qz];exact .j5 Jr qu xu Iq
     ·cases h7
    ·cases h
   ·cases h
  ·cases h
theorem Me (S:Nat->Prop) (w:World):BI w.heap.size S w ⟨λ_ _=>none,AH.emp,w⟩ :=
 ⟨Below.refl _ _,Nat.le_refl _,λ_ _ _=>rfl,λ s t b h=>by simp [AH.get,AH.emp]at h,λ s t s' t' b b' g h=>by simp [AH.get,AH.emp]at h⟩
theorem iD {n f:Nat} {vs:List AV} {own:AH} {r:AV × AH} (h:DD L n f vs own=some r) : ∃ fa,L f=some fa:=by
 cases n with
 | zero=>simp [DD]at h
 | succ n =>
  rw[SK]at h;cases hL:L f with
  | none=>simp [hL]at h
  | some fa=>exact ⟨fa,rfl⟩
theorem aE {n f:Nat} {vs:List AV} {r:AV} (h:HO (λ vs=>DD L n f vs AH.emp) vs=some r) : ∃ r0 o,DD L n f vs AH.emp=some (r0,o)/\OX o false r0=some r/\A1 r:=by
 unfold HO at h;cases he:DD L n f vs AH.emp with
 | none=>simp [he]at h
 | some x =>
  obtain ⟨r0,o⟩:=x;simp only[he]at h;split at h
  ·rename_i r' hr
   split at h
   ·rename_i hc
    simp only[Option.some.injEq]at h;subst h;exact ⟨r0,o,rfl,hr,hc⟩
   ·cases h
  ·cases h
theorem YH {n f:Nat} {vs:List AV} {r:AV} (h:G6 L n f vs=some r) : ∃ w7,∃ x,DD L n f w7 AH.emp=some x:=by
 unfold G6 JC at h;split at h
 ·split at h
  ·rename_i r1 r2 h1 h2
   obtain ⟨r0,o,h3,_⟩:=aE h1;exact ⟨_,_,h3⟩
  ·cases h
 ·obtain ⟨r0,o,h3,_⟩:=aE h
  exact ⟨_,_,h3⟩
theorem aF (hP:ProgOK P num L) {n:Nat} (ih:G0 P num (C8 L n)) {f:Nat} {vs:List AV} {r:AV} (h:HO (λ vs=>DD L (n+1) f vs AH.emp) vs=some r) (S:Nat->Prop) (w:World) (us:List Value) (hl:vs.length=us.length)
  (mg : ∀ (j:Nat) (c:AV) (v:Value),vs[j]? = some c->us[j]? = some v->CA w.heap.size S ⟨λ_ _=>none,AH.emp,w⟩ c v) :
  Calls P (num f) us.toArray w λ e w' => ∃ u,e = .returned u/\Below w.heap.size w w'/\CV w.heap.size S ⟨λ_ _=>none,AH.emp,w'⟩ r u/\A1 r:=by
 obtain ⟨r0,o,h1,h2,h3⟩:=aE (L:=L) h;refine Calls.mono (kK hP ih h1 w.heap.size S w ⟨λ_ _=>none,AH.emp,w⟩ us rfl (Me S w) hl λ j c v hc hv => .ca (mg j c v hc hv)) λ e w' ⟨u,m',he,hw,j6,gp,_,q6⟩ => ?_
 subst hw;refine ⟨u,he,gp.below,?_,h3⟩;refine DV.cv (m:=⟨λ_ _=>none,AH.emp,m'.w⟩) (Se gp false (safe w.heap.size S ⟨λ_ _=>none,AH.emp,m'.w⟩) (λ l b hb hs => ?_) (λ s t g fi hg => ?_) (by rw[j6];exact h2) q6)
 ·rcases hs with h|⟨h,_⟩|h
  ·exact .inl h
  ·exact .inr (.inl ⟨h,λ s t fi=>by simp [AH.get,AH.emp]at fi⟩)
  ·exact .inr (.inr h)
 ·exact .inr (.inl ⟨(gp.ge fi hg).1,λ s t fi=>by simp [AH.get,AH.emp]at fi⟩)
theorem tZ (hP:ProgOK P num L) : ∀ n,G0 P num (C8 L n):=by
 intro n;induction n with
 | zero =>
  exact ⟨λ f vs r h=>by obtain ⟨w7,x,h1⟩:=YH (L:=L) (n:=0) (f:=f) (vs:=vs) (r:=r) h;simp [DD]at h1,λ f vs own r h=>by change DD L 0 f vs own=some r at h;simp [DD]at h,
   λ f vs r h=>by obtain ⟨w7,x,h1⟩:=YH (L:=L) (n:=0) (f:=f) (vs:=vs) (r:=r) h;simp [DD]at h1,λ f vs own r l8 h=>by change DD L 0 f vs own=_ at h;simp [DD]at h,hP.2⟩
 | succ n ih =>
  refine ⟨λ f vs r h us w => ?_,λ f vs own r h us w => ?_,λ f vs r h S w us hl mg => ?_,λ f vs own r l8 h B S w0 m us j6 hm hl q6=>kK hP ih h B S w0 m us j6 hm hl q6,hP.2⟩
  ·obtain ⟨w7,x,h1⟩:=YH (L:=L) h
   obtain ⟨fa,hL⟩:=iD h1;exact dZ hP hL us w
  ·obtain ⟨fa,hL⟩:=iD (L:=L) h
   exact dZ hP hL us w
  ·have h:JC (L.kj f) (λ vs=>DD L (n+1) f vs AH.emp) vs=some r:=h
   unfold JC at h;split at h
   ·rename_i q w7 _ _
    split at h
    ·rename_i r1 r2 h1 h2
     split at h
     ·rename_i e
      subst e;obtain rfl:=Option.some.inj h;cases us with
      | nil=>simp at hl
      | cons u us =>
       have h0:=mg 0 _ u rfl rfl;have hu : ∃ a cap,u = .slice a 0 cap:=by
        cases h0 with
        | one h0=>cases h0 with
         | rd h0=>cases h0 with
          | ew l a cap=>exact ⟨a,cap,rfl⟩
          | sl l es b o a6 cap u k8=>exact absurd rfl k8
       obtain ⟨a,cap,rfl⟩:=hu;have key : ∀ b,a.isNone=b -> ∀ (j:Nat) (c:AV) (v:Value),(AV.z9 (.bool b)::w7)[j]? = some c->(Value.slice a 0 cap::us)[j]? = some v->CA w.heap.size S ⟨λ_ _=>none,AH.emp,w⟩ c v:=λ b hb j c v hc hv=>by
        cases j with
        | zero =>
         obtain rfl:=Option.some.inj hc;obtain rfl:=Option.some.inj hv;exact .one (.rd (.emp b a cap hb))
        | succ j=>exact mg (j+1) c v hc hv
       cases hb:a.isNone with
       | true=>exact aF hP ih h1 S w _ (by simpa using hl) (key true hb)
       | false=>exact aF hP ih h2 S w _ (by simpa using hl) (key false hb)
     ·cases h
    ·cases h
   ·exact aF hP ih h S w us hl mg
end
end Go.c4
namespace Go.c4
theorem progOK_of {P : Program} {num : Nat → Nat} (l : List (Nat × AFn)) (h : ∀ p ∈ l, ∃ fn, P.funcs[num p.1]? = some fn ∧ okFn P num fn p.2 = true ∧ (fn.name == "runtime.NumGoroutine") = false) : ProgOK P num ⟨λ f => l.lookup f, num⟩ := by
 refine ⟨?_,rfl⟩;intro f fa hf;have hm:(f,fa)∈l:=by
  clear h;change l.lookup f=some fa at hf;induction l with
  | nil=>simp at hf
  | cons x r ih =>
   obtain ⟨k,v⟩:=x;rw[List.lookup_cons]at hf;cases hk:(f == k) with
   | true =>
    rw[hk]at hf;have:f=k:=by simpa using hk
    subst this;simp at hf;simp [hf]
   | false =>
    rw[hk]at hf;exact List.mem_cons_of_mem _ (ih hf)
 exact h (f,fa) hm
end Go.c4

namespace Go.c4.F
open C
namespace JJ
def r0:=[o 2 (.b7 (.c (.bool false)))]
def r1:=[m 3 0,m 4 0,o 5 (.bin .neq 3 4),m 2 5]
def c:=(s (d r0 [2]) (s (d r1 [0,3,4,5]) .ret))
end JJ
def JJ:AFn:=⟨1,JJ.c,[.tmp 2],false⟩
namespace JK
def r0:=[o 2 (.b7 (.c (.bool false)))]
def r1:=[m 3 0,m 4 0,o 5 (.bin .neq 3 4),m 2 5]
def c:=(s (d r0 [2]) (s (d r1 [0,3,4,5]) .ret))
end JK
def JK:AFn:=⟨1,JK.c,[.tmp 2],false⟩
namespace JH
def r0:=[o 4 (.b7 (k 0))]
def r1:=[m 7 0,o 8 (.call 58 [7]),m 5 8]
def r2:=[m 9 1,o 10 (.call 58 [9]),m 6 10]
def r3:=[m 11 5]
def r4:=[m 12 6]
def r5:=[o 4 (.b7 (k 0))]
def r6:=[o 4 (.b7 (k (-1)))]
def r7:=[m 13 6]
def r8:=[o 4 (.b7 (k 1))]
def r9:=[m 14 0,m 15 1,o 16 (.bin .lss 14 15)]
def CE:=[o 4 (.b7 (k (-1)))]
def CI:=[m 17 0,m 18 1,o 19 (.bin .gtr 17 18)]
def u9:=[o 4 (.b7 (k 1))]
def DH:=[o 4 (.b7 (k 0))]
def c:=(s (d r0 [4]) (s (d r1 [7,8]) (s (d r2 [9,10]) (s (s (d r3 [5]) (i 11 (s (s (d r4 [0,1,6,11]) (i 12 (s (d r5 [12]) .ret) .skip)) (s (d r6 [12]) .ret)) .skip)) (s (s (d r7 [6,11]) (i 13 (s (d r8 [0,1,13]) .ret) .skip)) (s (s (d r9 [13,14,15]) (i 16 (s (d CE [0,1,16]) .ret) .skip)) (s (s (d CI [0,1,16,17,18]) (i 19 (s (d u9 [19]) .ret) .skip)) (s (d DH [19]) .ret))))))))
end JH
def JH:AFn:=⟨2,JH.c,[.tmp 4],false⟩
namespace JI
def r0:=[o 4 (.b7 (k 0))]
def r1:=[m 7 0,o 8 (.call 59 [7]),m 5 8]
def r2:=[m 9 1,o 10 (.call 59 [9]),m 6 10]
def r3:=[m 11 5]
def r4:=[m 12 6]
def r5:=[o 4 (.b7 (k 0))]
def r6:=[o 4 (.b7 (k (-1)))]
def r7:=[m 13 6]
def r8:=[o 4 (.b7 (k 1))]
def r9:=[m 14 0,m 15 1,o 16 (.bin .lss 14 15)]
def CE:=[o 4 (.b7 (k (-1)))]
def CI:=[m 17 0,m 18 1,o 19 (.bin .gtr 17 18)]
def u9:=[o 4 (.b7 (k 1))]
def DH:=[o 4 (.b7 (k 0))]
def c:=(s (d r0 [4]) (s (d r1 [7,8]) (s (d r2 [9,10]) (s (s (d r3 [5]) (i 11 (s (s (d r4 [0,1,6,11]) (i 12 (s (d r5 [12]) .ret) .skip)) (s (d r6 [12]) .ret)) .skip)) (s (s (d r7 [6,11]) (i 13 (s (d r8 [0,1,13]) .ret) .skip)) (s (s (d r9 [13,14,15]) (i 16 (s (d CE [0,1,16]) .ret) .skip)) (s (s (d CI [0,1,16,17,18]) (i 19 (s (d u9 [19]) .ret) .skip)) (s (d DH [19]) .ret))))))))
end JI
def JI:AFn:=⟨2,JI.c,[.tmp 4],false⟩
namespace GW
def r0:=[o 2 (.b7 (.c .nil))]
def r1:=[m 3 0,o 4 (.mr false 3)]
def r2:=[o 2 (.b7 (.c .nil))]
def r3:=[o 5 (.c9 5 1 []),m 6 0,o 7 (.app 7 1 4 5 6),m 2 7]
def c:=(s (d r0 [2]) (s (s (d r1 [3]) (i 4 (s (d r2 [0,4]) .ret) .skip)) (s (d r3 [0,4,5,6,7]) .ret)))
end GW
def GW:AFn:=⟨1,GW.c,[.tmp 2],true⟩
namespace JX
def r0:=[o 2 (.b7 (k 0))]
def r1:=[m 3 0,o 4 (.bin .geq 3 (.c (.int .u32 (65536))))]
def r2:=[m 5 0,o 6 (.bin .shr 5 (.c (.int .u64 (16)))),m 0 6]
def r3:=[o 2 (.b7 (k 16))]
def r4:=[m 7 0,o 8 (.bin .geq 7 (.c (.int .u32 (256))))]
def r5:=[m 9 0,o 10 (.bin .shr 9 (.c (.int .u64 (8)))),m 0 10]
def r6:=[m 11 2,o 12 (.bin .add 11 (k 8)),m 2 12]
def r7:=[m 13 2,m 14 0,o 15 (.conv .u8 14),
 o 16 (.ct (List.replicate 1 0++List.replicate 1 1++List.replicate 2 2++List.replicate 4 3++List.replicate 8 4++List.replicate 16 5++List.replicate 32 6++List.replicate 64 7++List.replicate 128 8) 15),
 o 17 (.conv .i64 16),o 18 (.bin .add 13 17),m 2 18]
def c:=(s (p r0) (s (s (d r1 [3]) (i 4 (s (d r2 [2,4,5,6]) (p r3)) .skip)) (s (s (d r4 [4,7]) (i 8 (s (d r5 [8,9,10]) (d r6 [11,12])) .skip)) (s (d r7 [0,8,13,14,15,16,17,18]) .ret))))
end JX
def JX:AFn:=⟨1,JX.c,[.tmp 2],false⟩
namespace JW
def r0:=[o 2 (.b7 (k 0))]
def r1:=[m 3 0,o 4 (.call 63 [3]),o 5 (.bin .sub (k 32) 4),m 2 5]
def c:=(s (d r0 [2]) (s (d r1 [0,3,4,5]) .ret))
end JW
def JW:AFn:=⟨1,JW.c,[.tmp 2],false⟩
namespace E6
def r0:=[o 2 (.b7 (.c .nil))]
def r1:=[m 4 0,o 5 (.len 4),m 3 5]
def r2:=[m 6 3,o 7 (.bin .gtr 6 (k 0)),m 8 7,g 9 8 true (.b7 0),g 10 8 true (.b7 3),g 11 8 true (.bin .sub 10 (k 1)),g 12 8 true (.a9 none 1 9 11),
 g 13 8 true (.ld false 1 12),g 14 8 true (.bin .eql 13 (.c (.int .u32 (0)))),o 15 (.pick 8 14 (.c (.bool false)))]
def r3:=[m 16 3,o 17 (.bin .sub 16 (k 1)),m 3 17]
def r4:=[m 18 0,m 19 3,o 20 (.dc 1 18 none (some 19)),m 2 20]
def l1:=(s (s (d r2 [6,7,8,9,10,11,12,13,14]) (i 15 .skip (x 0))) (b 1 (d r3 [15,16,17])))
def c:=(s (d r0 [2]) (s (d r1 [4,5]) (s (b 0 (w l1)) (s (d r4 [0,3,15,18,19,20]) .ret))))
end E6
def E6:AFn:=⟨1,E6.c,[.tmp 2],false⟩
namespace J5
def r0:=[o 2 (.b7 (.c .nil))]
def r1:=[m 3 0,o 4 (.g6 65 [3]),o 5 (.call 62 [4]),m 2 5]
def c:=(s (d r0 [2]) (s (d r1 [0,3,4,5]) .ret))
end J5
def J5:AFn:=⟨1,J5.c,[.tmp 2],false⟩
namespace J1
def r0:=[o 4 (.b7 (k 0))]
def r1:=[m 8 0,o 9 (.g6 65 [8]),m 10 1,o 11 (.g6 65 [10]),m 5 9,m 6 11]
def r2:=[m 12 5,o 13 (.len 12),m 14 6,o 15 (.len 14),o 16 (.bin .neq 13 15)]
def r3:=[m 17 5,o 18 (.len 17),m 19 6,o 20 (.len 19),o 21 (.call 60 [18,20]),m 4 21]
def r4:=[m 22 5,o 23 (.len 22),o 24 (.bin .sub 23 (k 1)),m 7 24]
def r5:=[m 25 7,o 26 (.bin .geq 25 (k 0))]
def r7:=[m 29 5,m 30 7,o 31 (.a9 none 1 29 30),o 32 (.ld false 1 31),m 33 6,m 34 7,o 35 (.a9 none 1 33 34),o 36 (.ld false 1 35),o 37 (.bin .neq 32 36)]
def r8:=[m 38 5,m 39 7,o 40 (.a9 none 1 38 39),o 41 (.ld false 1 40),m 42 6,m 43 7,o 44 (.a9 none 1 42 43),o 45 (.ld false 1 44),o 46 (.call 61 [41,45]),
 m 4 46]
def r6:=[m 27 7,o 28 (.bin .sub 27 (k 1)),m 7 28]
def r9:=[o 4 (.b7 (k 0))]
def l1:=(s (s (d r5 [25]) (i 26 .skip (x 0))) (s (b 1 (s (e r7 [26,29,30,31,32,33,34,35,36]) (i 37 (s (e r8 [5,6,7,37,38,39,40,41,42,43,44,45,46]) .ret) .skip))) (d r6 [27,28,37])))
def c:=(s (d r0 [4]) (s (d r1 [0,1,8,9,10,11]) (s (s (d r2 [12,13,14,15]) (i 16 (s (d r3 [5,6,16,17,18,19,20,21]) .ret) .skip)) (s (s (d r4 [16,22,23,24]) (b 0 (w l1))) (s (d r9 [5,6,7,26]) .ret)))))
end J1
def J1:AFn:=⟨2,J1.c,[.tmp 4],false⟩
namespace J0
def r0:=[o 4 (.b7 (.c .nil))]
def r1:=[m 12 0,o 13 (.g6 65 [12]),m 14 1,o 15 (.g6 65 [14]),m 5 13,m 6 15]
def r2:=[m 16 5,o 17 (.len 16),m 18 6,o 19 (.len 18),o 20 (.bin .lss 17 19)]
def r3:=[m 21 6,m 22 5,m 5 21,m 6 22]
def r4:=[m 23 5,o 24 (.len 23),o 25 (.bin .add 24 (k 1)),o 26 (.mk 26 1 4 [(.int .u32 (0))] 25 25),m 7 26]
def r5:=[o 8 (.b7 (.c (.int .u64 (0))))]
def r6:=[m 27 5,o 28 (.len 27),o 29 (.b7 (k 0))]
def r7:=[o 30 (.bin .lss 29 28)]
def r8:=[m 31 29,o 32 (.a9 none 1 27 29),o 33 (.ld false 1 32),m 9 31,m 10 33]
def r9:=[m 34 10,o 35 (.conv .u64 34),m 36 8,o 37 (.bin .add 35 36),m 11 37]
def CE:=[m 38 9,m 39 6,o 40 (.len 39),o 41 (.bin .lss 38 40)]
def CI:=[m 42 11,m 43 6,m 44 9,o 45 (.a9 none 1 43 44),o 46 (.ld false 1 45),o 47 (.conv .u64 46),o 48 (.bin .add 42 47),m 11 48]
def u9:=[m 49 7,m 50 9,m 51 11,o 52 (.conv .u32 51),o 53 (.a9 none 1 49 50),n (.st 1 53 52)]
def DH:=[m 54 11,o 55 (.bin .shr 54 (.c (.int .u64 (32)))),m 8 55]
def br:=[o 56 (.bin .add 29 (k 1)),m 29 56]
def db:=[m 57 7,m 58 5,o 59 (.len 58),m 60 8,o 61 (.conv .u32 60),o 62 (.a9 none 1 57 59),n (.st 1 62 61)]
def fg:=[m 63 7,o 64 (.g6 65 [63]),m 4 64]
def l1:=(s (p r7) (s (i 30 .skip (x 0)) (s (b 1 (s (d r8 [30,31,32,33]) (s (d r9 [8,10,34,35,36,37]) (s (s (d CE [38,39,40]) (i 41 (d CI [41,42,43,44,45,46,47,48]) .skip)) (s (d u9 [9,41,49,50,51,52,53]) (d DH [11,54,55])))))) (d br [56]))))
def c:=(s (d r0 [4]) (s (d r1 [0,1,12,13,14,15]) (s (s (d r2 [16,17,18,19]) (i 20 (d r3 [20,21,22]) .skip)) (s (d r4 [20,23,24,25,26]) (s (p r5) (s (s (p r6) (b 0 (w l1))) (s (d db [5,6,8,27,28,29,30,57,58,59,60,61,62]) (s (d fg [7,63,64]) .ret))))))))
end J0
def J0:AFn:=⟨2,J0.c,[.tmp 4],false⟩
namespace J4
def r0:=[o 4 (.b7 (.c .nil))]
def r1:=[m 12 0,m 13 1,o 14 (.call 67 [12,13]),o 15 (.bin .leq 14 (k 0))]
def r2:=[o 4 (.b7 (.c .nil))]
def r3:=[m 16 0,o 17 (.g6 65 [16]),m 18 1,o 19 (.g6 65 [18]),m 5 17,m 6 19]
def r4:=[m 20 5,o 21 (.len 20),o 22 (.mk 22 1 4 [(.int .u32 (0))] 21 21),m 7 22]
def r5:=[o 8 (.b7 (.c (.int .u64 (0))))]
def r6:=[m 23 5,o 24 (.len 23),o 25 (.b7 (k 0))]
def r7:=[o 26 (.bin .lss 25 24)]
def r8:=[m 27 25,o 28 (.a9 none 1 23 25),o 29 (.ld false 1 28),m 9 27,m 10 29]
def r9:=[m 30 10,o 31 (.conv .u64 30),m 32 8,o 33 (.bin .sub 31 32),m 11 33]
def CE:=[m 34 9,m 35 6,o 36 (.len 35),o 37 (.bin .lss 34 36)]
def CI:=[m 38 11,m 39 6,m 40 9,o 41 (.a9 none 1 39 40),o 42 (.ld false 1 41),o 43 (.conv .u64 42),o 44 (.bin .sub 38 43),m 11 44]
def u9:=[m 45 7,m 46 9,m 47 11,o 48 (.conv .u32 47),o 49 (.a9 none 1 45 46),n (.st 1 49 48)]
def DH:=[m 50 11,o 51 (.bin .shr 50 (.c (.int .u64 (63)))),m 8 51]
def br:=[o 52 (.bin .add 25 (k 1)),m 25 52]
def db:=[m 53 7,o 54 (.g6 65 [53]),m 4 54]
def l1:=(s (p r7) (s (i 26 .skip (x 0)) (s (b 1 (s (d r8 [26,27,28,29]) (s (d r9 [8,10,30,31,32,33]) (s (s (d CE [34,35,36]) (i 37 (d CI [37,38,39,40,41,42,43,44]) .skip)) (s (d u9 [9,37,45,46,47,48,49]) (d DH [11,50,51])))))) (d br [52]))))
def c:=(s (d r0 [4]) (s (s (d r1 [12,13,14]) (i 15 (s (d r2 [0,1,15]) .ret) .skip)) (s (d r3 [0,1,15,16,17,18,19]) (s (d r4 [20,21,22]) (s (p r5) (s (s (d r6 [5]) (b 0 (w l1))) (s (d db [6,7,8,23,24,25,26,53,54]) .ret)))))))
end J4
def J4:AFn:=⟨2,J4.c,[.tmp 4],false⟩
namespace J3
def r0:=[o 4 (.b7 (.c .nil))]
def r1:=[m 14 0,o 15 (.g6 65 [14]),m 16 1,o 17 (.g6 65 [16]),m 5 15,m 6 17]
def r2:=[m 18 5,o 19 (.len 18),o 20 (.bin .eql 19 (k 0)),m 21 20,g 22 21 false (.b7 6),g 23 21 false (.len 22),g 24 21 false (.bin .eql 23 (k 0)),
 o 25 (.pick 21 (.c (.bool true)) 24)]
def r3:=[o 4 (.b7 (.c .nil))]
def r4:=[m 26 5,o 27 (.len 26),m 28 6,o 29 (.len 28),o 30 (.bin .add 27 29),o 31 (.mk 31 1 4 [(.int .u32 (0))] 30 30),m 7 31]
def r5:=[m 32 5,o 33 (.len 32),o 34 (.b7 (k 0))]
def r6:=[o 35 (.bin .lss 34 33)]
def r7:=[m 36 34,o 37 (.a9 none 1 32 34),o 38 (.ld false 1 37),m 8 36,m 9 38]
def r8:=[m 39 9,o 40 (.bin .eql 39 (.c (.int .u32 (0))))]
def r9:=[o 10 (.b7 (.c (.int .u64 (0))))]
def CE:=[m 41 6,o 42 (.len 41),o 43 (.b7 (k 0))]
def CI:=[o 44 (.bin .lss 43 42)]
def u9:=[m 45 43,o 46 (.a9 none 1 41 43),o 47 (.ld false 1 46),m 11 45,m 12 47]
def DH:=[m 48 9,o 49 (.conv .u64 48),m 50 12,o 51 (.conv .u64 50),o 52 (.bin .mul 49 51),m 53 7,m 54 8,m 55 11,o 56 (.bin .add 54 55),o 57 (.a9 none 1 53 56),
 o 58 (.ld false 1 57),o 59 (.conv .u64 58),o 60 (.bin .add 52 59),m 61 10,o 62 (.bin .add 60 61),m 13 62]
def br:=[m 63 7,m 64 8,m 65 11,o 66 (.bin .add 64 65),m 67 13,o 68 (.conv .u32 67),o 69 (.a9 none 1 63 66),n (.st 1 69 68)]
def db:=[m 70 13,o 71 (.bin .shr 70 (.c (.int .u64 (32)))),m 10 71]
def fg:=[o 72 (.bin .add 43 (k 1)),m 43 72]
def F4:=[m 73 7,m 74 8,m 75 6,o 76 (.len 75),o 77 (.bin .add 74 76),m 78 10,o 79 (.conv .u32 78),o 80 (.a9 none 1 73 77),n (.st 1 80 79)]
def fw:=[o 81 (.bin .add 34 (k 1)),m 34 81]
def jj:=[m 82 7,o 83 (.g6 65 [82]),m 4 83]
def l2:=(s (p CI) (s (i 44 .skip (x 2)) (s (b 3 (s (d u9 [44,45,46,47]) (s (d DH [10,12,48,49,50,51,52,53,54,55,56,57,58,59,60,61,62]) (s (d br [11,63,64,65,66,67,68,69]) (d db [13,70,71]))))) (d fg [72]))))
def l1:=(s (p r6) (s (i 35 .skip (x 0)) (s (b 1 (s (d r7 [35,36,37,38]) (s (s (d r8 [39]) (i 40 (x 1) .skip)) (s (d r9 [40]) (s (s (p CE) (b 2 (w l2))) (d F4 [8,9,10,41,42,43,44,73,74,75,76,77,78,79,80])))))) (d fw [8,9,40,81]))))
def c:=(s (d r0 [4]) (s (d r1 [0,1,14,15,16,17]) (s (s (d r2 [18,19,20,21,22,23,24]) (i 25 (s (d r3 [5,6,25]) .ret) .skip)) (s (d r4 [25,26,27,28,29,30,31]) (s (s (d r5 [5]) (b 0 (w l1))) (s (d jj [6,7,32,33,34,35,82,83]) .ret))))))
end J3
def J3:AFn:=⟨2,J3.c,[.tmp 4],false⟩
namespace IM
def r0:=[o 6 (.b7 (.c .nil))]
def r1:=[m 11 2,o 12 (.mk 71012 1 4 [(.int .u32 (0))] 11 11),m 7 12]
def r2:=[o 8 (.b7 (.c (.int .u32 (0))))]
def r3:=[m 13 0,o 14 (.len 13),o 15 (.b7 (k 0))]
def r4:=[o 16 (.bin .lss 15 14)]
def r5:=[m 17 15,o 18 (.a9 none 1 13 15),o 19 (.ld false 1 18),m 9 17,m 10 19]
def r6:=[m 20 7,m 21 9,m 22 10,m 23 1,o 24 (.bin .shl 22 23),m 25 8,o 26 (.bin .or 24 25),o 27 (.a9 none 1 20 21),n (.st 1 27 26)]
def r7:=[m 28 10,o 29 (.conv .u64 28),m 30 1,o 31 (.bin .shl 29 30),o 32 (.bin .shr 31 (.c (.int .u64 (32)))),o 33 (.conv .u32 32),m 8 33]
def r8:=[o 34 (.bin .add 15 (k 1)),m 15 34]
def r9:=[m 35 2,m 36 0,o 37 (.len 36),o 38 (.bin .gtr 35 37)]
def CE:=[m 39 7,m 40 0,o 41 (.len 40),m 42 8,o 43 (.a9 none 1 39 41),n (.st 1 43 42)]
def CI:=[m 44 7,m 6 44]
def l1:=(s (p r4) (s (i 16 .skip (x 0)) (s (b 1 (s (d r5 [16,17,18,19]) (s (d r6 [8,9,20,21,22,23,24,25,26,27]) (d r7 [10,28,29,30,31,32,33])))) (d r8 [34]))))
def c:=(s (d r0 [6]) (s (d r1 [11,12]) (s (p r2) (s (s (p r3) (b 0 (w l1))) (s (s (d r9 [1,2,13,14,15,16,35,36,37]) (i 38 (d CE [0,8,38,39,40,41,42,43]) .skip)) (s (d CI [0,7,8,38,44]) .ret))))))
end IM
def IM:AFn:=⟨3,IM.c,[.tmp 6],false⟩
namespace KA
def r0:=[o 4 (.b7 (.c .nil))]
def r1:=[m 8 0,o 9 (.len 8),o 10 (.mk 10 1 4 [(.int .u32 (0))] 9 9),m 5 10]
def r2:=[o 6 (.b7 (.c (.int .u32 (0))))]
def r3:=[m 11 0,o 12 (.len 11),o 13 (.bin .sub 12 (k 1)),m 7 13]
def r4:=[m 14 7,o 15 (.bin .geq 14 (k 0))]
def r6:=[m 18 5,m 19 7,m 20 0,m 21 7,o 22 (.a9 none 1 20 21),o 23 (.ld false 1 22),m 24 1,o 25 (.bin .shr 23 24),m 26 6,o 27 (.bin .or 25 26),
 o 28 (.a9 none 1 18 19),n (.st 1 28 27)]
def r7:=[m 29 0,m 30 7,o 31 (.a9 none 1 29 30),o 32 (.ld false 1 31),o 33 (.conv .u64 32),m 34 1,o 35 (.bin .sub (.c (.int .u64 (32))) 34),
 o 36 (.bin .shl 33 35),o 37 (.conv .u32 36),m 6 37]
def r5:=[m 16 7,o 17 (.bin .sub 16 (k 1)),m 7 17]
def r8:=[m 38 5,m 4 38]
def l1:=(s (s (d r4 [14]) (i 15 .skip (x 0))) (s (b 1 (s (d r6 [6,15,18,19,20,21,22,23,24,25,26,27,28]) (d r7 [29,30,31,32,33,34,35,36,37]))) (d r5 [16,17])))
def c:=(s (d r0 [4]) (s (d r1 [8,9,10]) (s (p r2) (s (s (d r3 [11,12,13]) (b 0 (w l1))) (s (d r8 [0,1,5,6,7,15,38]) .ret)))))
end KA
def KA:AFn:=⟨2,KA.c,[.tmp 4],false⟩
namespace FD
def r0:=[o 4 (.b7 (.c (.int .u32 (0))))]
def r1:=[m 19 1,o 20 (.len 19),m 5 20]
def r2:=[m 21 0,m 22 5,o 23 (.a9 none 1 21 22),o 24 (.ld false 1 23),o 25 (.conv .u64 24),o 26 (.bin .shl 25 (.c (.int .u64 (32)))),m 27 0,m 28 5,
 o 29 (.bin .sub 28 (k 1)),o 30 (.a9 none 1 27 29),o 31 (.ld false 1 30),o 32 (.conv .u64 31),o 33 (.bin .or 26 32),m 6 33]
def r3:=[m 34 6,m 35 1,m 36 5,o 37 (.bin .sub 36 (k 1)),o 38 (.a9 none 1 35 37),o 39 (.ld false 1 38),o 40 (.conv .u64 39),o 41 (.bin .quo 34 40),m 42 6,
 m 43 1,m 44 5,o 45 (.bin .sub 44 (k 1)),o 46 (.a9 none 1 43 45),o 47 (.ld false 1 46),o 48 (.conv .u64 47),o 49 (.bin .rem 42 48),m 7 41,m 8 49]
def r4:=[m 50 7,o 51 (.bin .geq 50 (.c (.int .u64 (4294967296)))),m 52 51,g 53 52 false (.b7 7),g 54 52 false (.b7 1),g 55 52 false (.b7 5),
 g 56 52 false (.bin .sub 55 (k 2)),g 57 52 false (.a9 none 1 54 56),g 58 52 false (.ld false 1 57),g 59 52 false (.conv .u64 58),
 g 60 52 false (.bin .mul 53 59),g 61 52 false (.b7 8),g 62 52 false (.bin .shl 61 (.c (.int .u64 (32)))),g 63 52 false (.b7 0),g 64 52 false (.b7 5),
 g 65 52 false (.bin .sub 64 (k 2)),g 66 52 false (.a9 none 1 63 65),g 67 52 false (.ld false 1 66),g 68 52 false (.conv .u64 67),
 g 69 52 false (.bin .or 62 68),g 70 52 false (.bin .gtr 60 69),o 71 (.pick 52 (.c (.bool true)) 70)]
def r5:=[m 72 7,o 73 (.bin .sub 72 (.c (.int .u64 (1)))),m 7 73]
def r6:=[m 74 8,m 75 1,m 76 5,o 77 (.bin .sub 76 (k 1)),o 78 (.a9 none 1 75 77),o 79 (.ld false 1 78),o 80 (.conv .u64 79),o 81 (.bin .add 74 80),m 8 81]
def r7:=[m 82 8,o 83 (.bin .geq 82 (.c (.int .u64 (4294967296))))]
def r8:=[o 9 (.b7 (.c (.int .u64 (0)))),o 10 (.b7 (.c (.int .u64 (0))))]
def r9:=[m 84 1,o 85 (.len 84),o 86 (.b7 (k 0))]
def CE:=[o 87 (.bin .lss 86 85)]
def CI:=[m 88 86,o 89 (.a9 none 1 84 86),o 90 (.ld false 1 89),m 11 88,m 12 90]
def u9:=[m 91 7,m 92 12,o 93 (.conv .u64 92),o 94 (.bin .mul 91 93),m 95 9,o 96 (.bin .add 94 95),m 13 96]
def DH:=[m 97 13,o 98 (.bin .shr 97 (.c (.int .u64 (32)))),m 9 98]
def br:=[m 99 0,m 100 11,o 101 (.a9 none 1 99 100),o 102 (.ld false 1 101),o 103 (.conv .u64 102),m 104 13,o 105 (.conv .u32 104),o 106 (.conv .u64 105),
 o 107 (.bin .sub 103 106),m 108 10,o 109 (.bin .sub 107 108),m 14 109]
def db:=[m 110 0,m 111 11,m 112 14,o 113 (.conv .u32 112),o 114 (.a9 none 1 110 111),n (.st 1 114 113)]
def fg:=[m 115 14,o 116 (.bin .shr 115 (.c (.int .u64 (63)))),m 10 116]
def F4:=[o 117 (.bin .add 86 (k 1)),m 86 117]
def fw:=[m 118 0,m 119 5,o 120 (.a9 none 1 118 119),o 121 (.ld false 1 120),o 122 (.conv .u64 121),m 123 9,o 124 (.bin .sub 122 123),m 125 10,
 o 126 (.bin .sub 124 125),m 15 126]
def jj:=[m 127 0,m 128 5,m 129 15,o 130 (.conv .u32 129),o 131 (.a9 none 1 127 128),n (.st 1 131 130)]
def mb:=[m 132 15,o 133 (.bin .shr 132 (.c (.int .u64 (63)))),o 134 (.bin .eql 133 (.c (.int .u64 (0))))]
def nn:=[m 135 7,o 136 (.conv .u32 135),m 4 136]
def np:=[o 9 (.b7 (.c (.int .u64 (0))))]
def nq:=[m 137 1,o 138 (.len 137),o 139 (.b7 (k 0))]
def NW:=[o 140 (.bin .lss 139 138)]
def P2:=[m 141 139,o 142 (.a9 none 1 137 139),o 143 (.ld false 1 142),m 16 141,m 17 143]
def TG:=[m 144 0,m 145 16,o 146 (.a9 none 1 144 145),o 147 (.ld false 1 146),o 148 (.conv .u64 147),m 149 17,o 150 (.conv .u64 149),o 151 (.bin .add 148 150),
 m 152 9,o 153 (.bin .add 151 152),m 18 153]
def aG:=[m 154 0,m 155 16,m 156 18,o 157 (.conv .u32 156),o 158 (.a9 none 1 154 155),n (.st 1 158 157)]
def aH:=[m 159 18,o 160 (.bin .shr 159 (.c (.int .u64 (32)))),m 9 160]
def aI:=[o 161 (.bin .add 139 (k 1)),m 139 161]
def Ct:=[m 162 0,m 163 5,o 164 (.a9 none 1 162 163),o 165 (.ld false 1 164),m 166 9,o 167 (.conv .u32 166),o 168 (.bin .add 165 167),
 o 169 (.a9 none 1 162 163),n (.st 1 169 168)]
def Cu:=[m 170 7,o 171 (.bin .sub 170 (.c (.int .u64 (1)))),o 172 (.conv .u32 171),m 4 172]
def l1:=(s (s (e r4 [50,51,52,53,54,55,56,57,58,59,60,61,62,63,64,65,66,67,68,69,70,83]) (i 71 .skip (x 0))) (b 1 (s (d r5 [71,72,73]) (s (d r6 [74,75,76,77,78,79,80,81]) (s (d r7 [82]) (i 83 (x 0) .skip))))))
def l2:=(s (p CE) (s (i 87 .skip (x 2)) (s (b 3 (s (d CI [87,88,89,90]) (s (d u9 [9,12,91,92,93,94,95,96]) (s (d DH [97,98]) (s (d br [10,13,99,100,101,102,103,104,105,106,107,108,109]) (s (d db [11,110,111,112,113,114]) (d fg [14,115,116]))))))) (d F4 [117]))))
def l3:=(s (p NW) (s (i 140 .skip (x 4)) (s (b 5 (s (d P2 [140,141,142,143]) (s (d TG [9,17,144,145,146,147,148,149,150,151,152,153]) (s (d aG [16,154,155,156,157,158]) (d aH [18,159,160]))))) (d aI [161]))))
def c:=(s (d r0 [4]) (s (d r1 [19,20]) (s (e r2 [21,22,23,24,25,26,27,28,29,30,31,32,33]) (s (e r3 [6,34,35,36,37,38,39,40,41,42,43,44,45,46,47,48,49]) (s (b 0 (w l1)) (s (d r8 [8,71,83]) (s (s (p r9) (b 2 (w l2))) (s (d fw [9,10,84,85,86,87,118,119,120,121,122,123,124,125,126]) (s (d jj [127,128,129,130,131]) (s (s (d mb [15,132,133]) (i 134 (s (d nn [0,1,5,7,134,135,136]) .ret) .skip)) (s (d np [134]) (s (s (d nq [1]) (b 4 (w l3))) (s (d Ct [0,5,9,137,138,139,140,162,163,164,165,166,167,168,169]) (s (d Cu [7,170,171,172]) .ret))))))))))))))
end FD
def FD:AFn:=⟨2,FD.c,[.tmp 4],false⟩
namespace J8
def r0:=[o 4 (.b7 (.c .nil)),o 5 (.b7 (.c .nil))]
def r1:=[m 15 0,m 16 1,o 17 (.call 67 [15,16]),o 18 (.bin .lss 17 (k 0))]
def r2:=[m 19 0,o 20 (.call 62 [19]),o 4 (.b7 (.c .nil)),m 5 20]
def r3:=[m 21 1,o 22 (.len 21),m 6 22]
def r4:=[m 23 0,o 24 (.len 23),m 25 6,o 26 (.bin .sub 24 25),o 27 (.bin .add 26 (k 1)),o 28 (.mk 28 1 4 [(.int .u32 (0))] 27 27),m 7 28]
def r5:=[m 29 6,o 30 (.bin .eql 29 (k 1))]
def r6:=[o 8 (.b7 (.c (.int .u64 (0))))]
def r7:=[m 31 0,o 32 (.len 31),o 33 (.bin .sub 32 (k 1)),m 9 33]
def r8:=[m 34 9,o 35 (.bin .geq 34 (k 0))]
def CE:=[m 38 8,o 39 (.bin .shl 38 (.c (.int .u64 (32)))),m 40 0,m 41 9,o 42 (.a9 none 1 40 41),o 43 (.ld false 1 42),o 44 (.conv .u64 43),
 o 45 (.bin .or 39 44),m 10 45]
def CI:=[m 46 7,m 47 9,m 48 10,m 49 1,o 50 (.a9 none 1 49 (k 0)),o 51 (.ld false 1 50),o 52 (.conv .u64 51),o 53 (.bin .quo 48 52),o 54 (.conv .u32 53),
 o 55 (.a9 none 1 46 47),n (.st 1 55 54)]
def u9:=[m 56 10,m 57 1,o 58 (.a9 none 1 57 (k 0)),o 59 (.ld false 1 58),o 60 (.conv .u64 59),o 61 (.bin .rem 56 60),m 8 61]
def r9:=[m 36 9,o 37 (.bin .sub 36 (k 1)),m 9 37]
def DH:=[m 62 7,o 63 (.g6 65 [62]),m 64 8,o 65 (.conv .u32 64),o 66 (.c9 66 1 [65]),o 67 (.g6 65 [66]),m 4 63,m 5 67]
def br:=[m 68 1,m 69 6,o 70 (.bin .sub 69 (k 1)),o 71 (.a9 none 1 68 70),o 72 (.ld false 1 71),o 73 (.call 64 [72]),o 74 (.conv .u64 73),m 11 74]
def db:=[m 75 0,m 76 11,m 77 0,o 78 (.len 77),o 79 (.bin .add 78 (k 1)),o 80 (.g6 71 [75,76,79]),m 81 1,m 82 11,m 83 6,o 84 (.call 71 [81,82,83]),
 m 12 80,m 13 84]
def fg:=[m 85 0,o 86 (.len 85),m 87 6,o 88 (.bin .sub 86 87),m 14 88]
def F4:=[m 89 14,o 90 (.bin .geq 89 (k 0))]
def jj:=[m 93 7,m 94 14,m 95 12,m 96 14,m 97 14,m 98 6,o 99 (.bin .add 97 98),o 100 (.bin .add 99 (k 1)),o 101 (.dc 1 95 (some 96) (some 100)),m 102 13,
 o 103 (.g6 73 [101,102]),o 104 (.a9 none 1 93 94),n (.st 1 104 103)]
def fw:=[m 91 14,o 92 (.bin .sub 91 (k 1)),m 14 92]
def mb:=[m 105 7,o 106 (.g6 65 [105]),m 107 12,m 108 6,o 109 (.dc 1 107 none (some 108)),m 110 11,o 111 (.call 72 [109,110]),o 112 (.g6 65 [111]),
 m 4 106,m 5 112]
def l1:=(s (s (d r8 [34]) (i 35 .skip (x 0))) (s (b 1 (s (d CE [8,35,38,39,40,41,42,43,44,45]) (s (d CI [46,47,48,49,50,51,52,53,54,55]) (d u9 [10,56,57,58,59,60,61])))) (d r9 [36,37])))
def l2:=(s (s (d F4 [89]) (i 90 .skip (x 2))) (s (b 3 (d jj [90,93,94,95,96,97,98,99,100,101,102,103,104])) (d fw [91,92])))
def c:=(s (d r0 [4,5]) (s (s (d r1 [15,16,17]) (i 18 (s (d r2 [0,1,18,19,20]) .ret) .skip)) (s (d r3 [18,21,22]) (s (d r4 [23,24,25,26,27,28]) (s (s (d r5 [29]) (i 30 (s (d r6 [6,30]) (s (s (d r7 [31,32,33]) (b 0 (w l1))) (s (d DH [0,1,7,8,9,35,62,63,64,65,66,67]) .ret))) .skip)) (s (d br [30,68,69,70,71,72,73,74]) (s (d db [1,75,76,77,78,79,80,81,82,83,84]) (s (s (d fg [0,85,86,87,88]) (b 2 (w l2))) (s (e mb [6,7,11,12,13,14,90,105,106,107,108,109,110,111,112]) .ret)))))))))
end J8
def J8:AFn:=⟨2,J8.c,[.tmp 4,.tmp 5],false⟩
namespace J2
def r0:=[o 4 (.b7 (.c .nil)),o 5 (.b7 (.c .nil)),o 6 (.b7 (k 0))]
def r1:=[m 10 1,o 11 (.g6 65 [10]),m 7 11]
def r2:=[m 12 7,o 13 (.len 12),o 14 (.bin .eql 13 (k 0))]
def r3:=[o 4 (.b7 (.c .nil)),o 5 (.b7 (.c .nil)),o 6 (.b7 (k 3))]
def r4:=[m 16 0,o 17 (.g6 65 [16]),m 18 7,o 19 (.call 74 [17,18]),m 15 19,o 20 (.ext 15 0),o 21 (.ext 15 1),m 8 20,m 9 21]
def r5:=[m 22 8,m 23 9,m 4 22,m 5 23,o 6 (.b7 (k 0))]
def c:=(s (d r0 [4,5,6]) (s (d r1 [1,10,11]) (s (s (d r2 [12,13]) (i 14 (s (d r3 [0,7,14]) .ret) .skip)) (s (d r4 [0,7,14,15,16,17,18,19,20,21]) (s (d r5 [8,9,22,23]) .ret)))))
end J2
def J2:AFn:=⟨2,J2.c,[.tmp 4,.tmp 5,.tmp 6],false⟩
namespace KC
def r0:=[o 2 (.b7 (.c (.int .u64 (0))))]
def r1:=[o 3 (.b7 (.c (.int .u64 (0))))]
def r2:=[m 6 0,o 7 (.len 6),o 8 (.b7 (k 0))]
def r3:=[o 9 (.bin .lss 8 7)]
def r4:=[m 10 8,o 11 (.a9 none 1 6 8),o 12 (.ld false 1 11),m 4 10,m 5 12]
def r5:=[m 13 3,m 14 5,o 15 (.conv .u64 14),m 16 4,o 17 (.bin .mul (k 32) 16),o 18 (.bin .shl 15 17),o 19 (.bin .or 13 18),m 3 19]
def r6:=[o 20 (.bin .add 8 (k 1)),m 8 20]
def r7:=[m 21 3,m 2 21]
def l1:=(s (p r3) (s (i 9 .skip (x 0)) (s (b 1 (s (d r4 [9,10,11,12]) (d r5 [4,5,13,14,15,16,17,18,19]))) (d r6 [20]))))
def c:=(s (d r0 [2]) (s (p r1) (s (s (d r2 [0]) (b 0 (w l1))) (s (d r7 [3,6,7,8,9,21]) .ret))))
end KC
def KC:AFn:=⟨1,KC.c,[.tmp 2],false⟩
namespace HM
def r0:=[o 3 (.b7 (.c (.int .u64 (0))))]
def r1:=[m 4 0,o 5 (.ld false 1 1),o 6 (.len 5),o 7 (.bin .lss 4 6)]
def r2:=[o 8 (.ld false 1 1),m 9 0,o 10 (.a9 none 1 8 9),o 11 (.ld false 1 10),o 12 (.conv .u64 11),m 3 12]
def r3:=[o 3 (.b7 (.c (.int .u64 (0))))]
def c:=(s (d r0 [3]) (s (s (d r1 [4,5,6]) (i 7 (s (d r2 [0,1,7,8,9,10,11,12]) .ret) .skip)) (s (d r3 [0,1,7]) .ret)))
end HM
def HM:AFn:=⟨2,HM.c,[.tmp 3],false⟩
namespace J9
def r0:=[o 3 (.box 3 0),o 6 (.b7 (k 0))]
def r1:=[o 9 (.kf false 77 [3]),m 7 9]
def r2:=[m 10 7,m 11 1,o 12 (.bin .sub 11 (k 1)),o 13 (.n9 10 [12]),o 14 (.bin .shl 13 (.c (.int .u64 (32)))),m 15 7,m 16 1,o 17 (.bin .sub 16 (k 2)),
 o 18 (.n9 15 [17]),o 19 (.bin .or 14 18),m 20 2,o 21 (.bin .shl 19 20),m 8 21]
def r3:=[m 22 8,m 23 7,m 24 1,o 25 (.bin .sub 24 (k 3)),o 26 (.n9 23 [25]),m 27 2,o 28 (.bin .shl 26 27),o 29 (.bin .shr 28 (.c (.int .u64 (32)))),
 o 30 (.bin .or 22 29),m 8 30]
def r4:=[m 31 8,o 32 (.bin .shr 31 (.c (.int .u64 (2)))),o 33 (.conv .i64 32),m 6 33]
def c:=(s (d r0 [0,6]) (s (d r1 [3,9]) (s (d r2 [10,11,12,13,14,15,16,17,18,19,20,21]) (s (d r3 [1,2,7,22,23,24,25,26,27,28,29,30]) (s (d r4 [8,31,32,33]) .ret)))))
end J9
def J9:AFn:=⟨3,J9.c,[.tmp 6],false⟩
namespace J6
def r0:=[o 4 (.b7 (k 0)),o 5 (.b7 (k 0)),o 6 (.b7 (k 0)),o 7 (.b7 (k 0))]
def r1:=[o 4 (.b7 (k 1)),o 7 (.b7 (k 1))]
def r2:=[m 11 1,m 12 6,o 13 (.bin .add 11 12),o 14 (.bin .neq 13 (k 0)),m 15 14,g 16 15 true (.b7 1),g 17 15 true (.b7 7),g 18 15 true (.bin .add 16 17),
 g 19 15 true (.bin .neq 18 (k 0)),o 20 (.pick 15 19 (.c (.bool false)))]
def r3:=[m 21 0,m 22 4,o 23 (.bin .add 21 22),m 24 1,m 25 6,o 26 (.bin .add 24 25),o 27 (.bin .quo 23 26),m 8 27]
def r4:=[m 28 8,m 29 0,m 30 5,o 31 (.bin .add 29 30),m 32 1,m 33 7,o 34 (.bin .add 32 33),o 35 (.bin .quo 31 34),o 36 (.bin .neq 28 35),m 37 36,
 g 38 37 false (.b7 8),g 39 37 false (.bin .gtr 38 (k 2147483647)),o 40 (.pick 37 (.c (.bool true)) 39)]
def r5:=[m 41 4,m 42 8,m 43 6,o 44 (.bin .mul 42 43),o 45 (.bin .sub 41 44),m 46 5,m 47 8,m 48 7,o 49 (.bin .mul 47 48),o 50 (.bin .sub 46 49),m 9 45,m 10 50]
def r6:=[m 51 9,m 52 9,o 53 (.un .neg 52),m 54 10,m 55 10,o 56 (.un .neg 55),o 57 (.mm true [51,53,54,56]),o 58 (.bin .gtr 57 (k 2147483647))]
def r7:=[m 59 6,m 60 7,m 61 9,m 62 10,m 4 59,m 5 60,m 6 61,m 7 62]
def r8:=[m 63 1,m 64 0,m 65 8,m 66 1,o 67 (.bin .mul 65 66),o 68 (.bin .sub 64 67),m 0 63,m 1 68]
def r9:=[m 69 4,m 70 5,m 71 6,m 72 7,m 4 69,m 5 70,m 6 71,m 7 72]
def l1:=(s (s (d r2 [11,12,13,14,15,16,17,18,19]) (i 20 .skip (x 0))) (b 1 (s (d r3 [20,21,22,23,24,25,26,27]) (s (s (d r4 [28,29,30,31,32,33,34,35,36,37,38,39]) (i 40 (x 0) .skip)) (s (d r5 [40,41,42,43,44,45,46,47,48,49,50]) (s (s (d r6 [51,52,53,54,55,56,57]) (i 58 (x 0) .skip)) (s (d r7 [9,10,58,59,60,61,62]) (d r8 [8,63,64,65,66,67,68]))))))))
def c:=(s (d r0 [4,7]) (s (p r1) (s (b 0 (w l1)) (s (d r9 [0,1,8,9,10,20,40,58,69,70,71,72]) .ret))))
end J6
def J6:AFn:=⟨2,J6.c,[.tmp 4,.tmp 5,.tmp 6,.tmp 7],false⟩
namespace J7
def r0:=[o 8 (.b7 (.c .nil))]
def r1:=[m 14 0,o 15 (.len 14),o 16 (.mk 16 1 4 [(.int .u32 (0))] 15 15),m 9 16]
def r2:=[o 10 (.b7 (k 0))]
def r3:=[m 17 0,o 18 (.len 17),o 19 (.b7 (k 0))]
def r4:=[o 20 (.bin .lss 19 18)]
def r5:=[m 21 19,o 22 (.a9 none 1 17 19),o 23 (.ld false 1 22),m 11 21,m 12 23]
def r6:=[m 24 2,m 25 12,o 26 (.conv .i64 25),o 27 (.bin .mul 24 26),m 28 10,o 29 (.bin .add 27 28),m 13 29]
def r7:=[m 30 11,m 31 1,o 32 (.len 31),o 33 (.bin .lss 30 32)]
def r8:=[m 34 13,m 35 3,m 36 1,m 37 11,o 38 (.a9 none 1 36 37),o 39 (.ld false 1 38),o 40 (.conv .i64 39),o 41 (.bin .mul 35 40),o 42 (.bin .add 34 41),
 m 13 42]
def r9:=[m 43 9,m 44 11,m 45 13,o 46 (.conv .u32 45),o 47 (.a9 none 1 43 44),n (.st 1 47 46)]
def CE:=[m 48 13,o 49 (.bin .shr 48 (.c (.int .u64 (32)))),m 10 49]
def CI:=[o 50 (.bin .add 19 (k 1)),m 19 50]
def u9:=[m 51 9,o 52 (.g6 65 [51]),m 8 52]
def l1:=(s (p r4) (s (i 20 .skip (x 0)) (s (b 1 (s (d r5 [20,21,22,23]) (s (d r6 [10,12,24,25,26,27,28,29]) (s (s (d r7 [30,31,32]) (i 33 (d r8 [33,34,35,36,37,38,39,40,41,42]) .skip)) (s (d r9 [11,33,43,44,45,46,47]) (d CE [13,48,49])))))) (d CI [50]))))
def c:=(s (d r0 [8]) (s (d r1 [14,15,16]) (s (p r2) (s (s (d r3 [0]) (b 0 (w l1))) (s (d u9 [1,2,3,9,10,17,18,19,20,51,52]) .ret)))))
end J7
def J7:AFn:=⟨4,J7.c,[.tmp 8],false⟩
namespace KB
def r0:=[o 4 (.b7 (.c .nil)),o 5 (.b7 (.c .nil))]
def r1:=[m 14 0,o 15 (.len 14),m 6 15]
def r2:=[m 16 0,m 17 6,o 18 (.bin .sub 17 (k 1)),o 19 (.a9 none 1 16 18),o 20 (.ld false 1 19),o 21 (.call 64 [20]),o 22 (.conv .u64 21),m 7 22]
def r3:=[m 24 0,m 25 6,m 26 7,o 27 (.call 78 [24,25,26]),m 28 1,m 29 6,m 30 7,o 31 (.call 78 [28,29,30]),o 32 (.call 79 [27,31]),m 23 32,o 33 (.ext 23 0),
 o 34 (.ext 23 1),o 35 (.ext 23 2),o 36 (.ext 23 3),m 8 33,m 9 34,m 10 35,m 11 36]
def r4:=[m 37 9,o 38 (.bin .eql 37 (k 0))]
def r5:=[m 40 0,m 41 1,o 42 (.call 74 [40,41]),m 39 42,o 43 (.ext 39 0),o 44 (.ext 39 1),m 12 43,m 13 44]
def r6:=[m 45 1,m 46 13,m 4 45,m 5 46]
def r7:=[m 47 0,m 48 1,m 49 8,m 50 9,o 51 (.call 80 [47,48,49,50]),m 52 0,m 53 1,m 54 10,m 55 11,o 56 (.call 80 [52,53,54,55]),m 4 51,m 5 56]
def c:=(s (d r0 [4,5]) (s (d r1 [14,15]) (s (d r2 [16,17,18,19,20,21,22]) (s (d r3 [6,7,23,24,25,26,27,28,29,30,31,32,33,34,35,36]) (s (s (d r4 [37]) (i 38 (s (d r5 [0,8,9,10,11,12,38,39,40,41,42,43,44]) (s (d r6 [1,13,45,46]) .ret)) .skip)) (s (d r7 [0,1,8,9,10,11,38,47,48,49,50,51,52,53,54,55,56]) .ret))))))
end KB
def KB:AFn:=⟨2,KB.c,[.tmp 4,.tmp 5],false⟩
namespace F3
def r0:=[o 4 (.b7 (.c .nil))]
def r1:=[m 11 0,o 12 (.call 66 [11]),m 13 1,o 14 (.call 66 [13]),m 5 12,m 6 14]
def r2:=[m 15 5,m 16 6,o 17 (.call 67 [15,16]),o 18 (.bin .lss 17 (k 0))]
def r3:=[m 19 6,m 20 5,m 5 19,m 6 20]
def r4:=[m 21 6,o 22 (.len 21),o 23 (.bin .gtr 22 (k 2))]
def r5:=[m 25 5,m 26 6,o 27 (.call 81 [25,26]),m 24 27,o 28 (.ext 24 0),o 29 (.ext 24 1),m 5 28,m 6 29]
def r6:=[m 30 6,o 31 (.len 30),o 32 (.bin .eql 31 (k 0))]
def r7:=[m 33 5,m 4 33]
def r8:=[m 35 5,m 36 6,o 37 (.call 74 [35,36]),m 34 37,o 38 (.ext 34 0),o 39 (.ext 34 1),m 7 38,m 8 39]
def r9:=[m 40 6,o 41 (.call 76 [40]),m 42 8,o 43 (.call 76 [42]),m 9 41,m 10 43]
def CE:=[m 44 10,o 45 (.bin .neq 44 (.c (.int .u64 (0))))]
def CI:=[m 46 10,m 47 9,m 48 10,o 49 (.bin .rem 47 48),m 9 46,m 10 49]
def u9:=[m 50 9,o 51 (.conv .u32 50),m 52 9,o 53 (.bin .shr 52 (.c (.int .u64 (32)))),o 54 (.conv .u32 53),o 55 (.c9 55 1 [51,54]),o 56 (.g6 65 [55]),
 m 4 56]
def l1:=(s (s (d r4 [18,21,22]) (i 23 .skip (x 0))) (b 1 (d r5 [23,24,25,26,27,28,29])))
def l2:=(s (s (d CE [44]) (i 45 .skip (x 2))) (b 3 (e CI [45,46,47,48,49])))
def c:=(s (d r0 [4]) (s (d r1 [0,1,11,12,13,14]) (s (s (d r2 [15,16,17]) (i 18 (d r3 [18,19,20]) .skip)) (s (b 0 (w l1)) (s (s (d r6 [23,30,31]) (i 32 (s (d r7 [5,6,32,33]) .ret) .skip)) (s (d r8 [5,7,32,34,35,36,37,38,39]) (s (d r9 [6,8,40,41,42,43]) (s (b 2 (w l2)) (s (d u9 [9,10,45,50,51,52,53,54,55,56]) .ret)))))))))
end F3
def F3:AFn:=⟨2,F3.c,[.tmp 4],false⟩
structure c5 (L:Lib):Prop where
 JJ:L 58=some F.JJ
 JK:L 59=some F.JK
 JH:L 60=some F.JH
 JI:L 61=some F.JI
 GW:L 62=some F.GW
 JX:L 63=some F.JX
 JW:L 64=some F.JW
 E6:L 65=some F.E6
 J5:L 66=some F.J5
 J1:L 67=some F.J1
 J0:L 68=some F.J0
 J4:L 69=some F.J4
 J3:L 70=some F.J3
 IM:L 71=some F.IM
 KA:L 72=some F.KA
 FD:L 73=some F.FD
 J8:L 74=some F.J8
 J2:L 75=some F.J2
 KC:L 76=some F.KC
 HM:L 77=some F.HM
 J9:L 78=some F.J9
 J6:L 79=some F.J6
 J7:L 80=some F.J7
 KB:L 81=some F.KB
 F3:L 82=some F.F3
end Go.c4.F
