/-
  Whatever the abstract machine says of an operation, the model does.
-/
import Derived.Test.YtfnglkabkfmjcaaGreatB2
import Derived.Orders
import Derived.Test.YtfnglkabkfmjcaaGreatB1
set_option linter.unusedSimpArgs false
set_option linter.unusedVariables false
set_option linter.unnecessarySimpa false
namespace Go.c5
open Go.RowKit
section
variable {B:Nat} {S:Nat->Prop} {w0:World} {m:M}
variable {P:Program} {num:Nat->Nat} {o:Oper} {a:Act} {ρ:AP->AV} {C:Cl} {b9:List Nat}
theorem Uv (hm:BP B S w0 m) (hs:CN B S m ρ a.eval) {mx:Bool} {n0:List AP} (h:A8 P num o.op (.mm mx n0)=true) {v r:AV} {l:List AV} (hx:n0.map ρ=v::l) (hv:J4 mx v l=some r):CS B S w0 P o a m (.val r):=by
 by_cases hi : ∃ k n,v = .int k n
 ·exact Uu hm hs h hx hv hi
 ·cases l with
  | cons u q =>
   simp only[J4]at hv;exfalso;cases v<;>first|(exact hi ⟨_,_,rfl⟩)|(simp [PN]at hv)
  | nil =>
   simp only[J4,Option.some.injEq]at hv;subst hv;obtain ⟨xs,ts,j8,he⟩:=pK h;cases n0 with
   | nil=>simp at hx
   | cons y yr =>
    simp only[List.map_cons,List.cons.injEq,List.map_eq_nil_iff]at hx;obtain ⟨rfl,rfl⟩:=hx;obtain ⟨xl⟩:=xs;cases xl with
    | nil=>simp [ED]at he
    | cons x xr =>
     simp only[ED,Bool.and_eq_true]at he;cases xr with
     | cons=>simp [ED]at he
     | nil =>
      refine D7 hm (u:=a.eval x) ?_ (hs x y he.1);cases mx<;>simp [execOp,j8,resolve,invoke,builtin,Builtin.min_,Builtin.max_]
theorem oT (o:AH) (l:List Nat) (s t:Nat) (b:DT) (h:(o.m4 l).get s t=some b):o.get s t=some b:=by
 induction l with
 | nil=>exact h
 | cons x r ih =>
  unfold AH.get AH.m4 at h;by_cases hs:s=x
  ·simp [hs]at h
  ·simp only[if_neg hs]at h
   exact ih h
theorem AeO {o:AH} {l:List Nat} {s t i j n:Nat} {cs:List AV} (h:(o.m4 l).pc s t i j n=some cs):o.pc s t i j n=some cs:=by
 unfold AH.pc at *;cases hg:(o.m4 l).get s t with
 | none=>simp [hg]at h
 | some b =>
  rw[oT o l s t b hg];simpa [hg] using h
theorem Un {o:AH} {l:List Nat} {v:AV} {es:List (List AV)} (h:EA (o.m4 l) v=some es):EA o v=some es:=by
 cases v with
 | cj v=>cases v<;>exact h
 | row s t z off len =>
  simp only[EA]at h ⊢;cases hg:(o.m4 l).get s t with
  | none=>simp [hg]at h
  | some b =>
   rw[oT o l s t b hg];simpa [hg] using h
 | _=>exact h
theorem TR {α β:Type} {f g:α->Option β} (Pg : ∀ x y,f x=some y->g x=some y) : ∀ {l:List α} {l':List β},l.mapM f=some l'->l.mapM g=some l'
 | [],l',h=>by simpa using h
 | x::r,l',h=>by
  simp only[List.mapM_cons,Option.bind_eq_bind,Option.pure_def]at h ⊢;cases hx:f x with
  | none=>simp [hx]at h
  | some y =>
   cases hr:r.mapM f with
   | none=>simp [hx,hr]at h
   | some r' =>
    simp [hx,hr]at h;simp [Pg x y hx,TR Pg hr,h]
theorem gS (o:AH) (l:List Nat) (b:Bool) : ∀ (d:Nat) (c c':AV),snap (o.m4 l) b d c=some c'->snap o b d c=some c'
 | 0,c,c',h=>by cases c<;>simp_all [snap]
 | d+1,c,c',h=>by
  cases c<;>first|(simp_all [snap];done)|skip
  rename_i s t z off len;simp only[snap]at h ⊢;cases he:EA (o.m4 l) (.row s t z off len) with
  | none=>simp [he]at h
  | some es =>
   simp only[he]at h;rw[Un he];simp only[Option.map_eq_some_iff]at h ⊢;obtain ⟨es',h1,h2⟩:=h;exact ⟨es',TR (λ x y hx=>TR (gS o l b d) hx) h1,h2⟩
theorem tT (o:AH) (l:List Nat) (b:Bool) (c c':AV) (h:C7 (o.m4 l) b c=some c'):C7 o b c=some c':=by
 cases c<;>first|exact gS o l b 6 _ _ h|skip
 simp only[C7,Option.map_eq_some_iff]at h ⊢;obtain ⟨cs,h1,h2⟩:=h;exact ⟨cs,TR (gS o l b 6) h1,h2⟩
theorem Agv (o:AH) (l:List Nat) (b:Bool) (c c':AV) (h:OZ (o.m4 l) b c=some c'):OZ o b c=some c':=by
 rcases Classical.em (c = .nil) with rfl|hc
 ·exact h
 ·have e : ∀ o:AH,OZ o b c=C7 o b c:=λ o=>by cases c<;>first|rfl|exact (hc rfl).elim
  rw[e]at h ⊢;exact tT o l b _ _ h
theorem AeZ {o:AH} {l:List Nat} {b:Bool} {xs vs:List AV} (h:xs.mapM (OZ (o.m4 l) b)=some vs):xs.mapM (OZ o b)=some vs:=TR (Agv o l b) h
theorem AeX {o:AH} {l:List Nat} {b:Bool} {xs vs:List AV} (h:xs.mapM (C7 (o.m4 l) b)=some vs):xs.mapM (C7 o b)=some vs:=TR (tT o l b) h
theorem AgJ {own l8:AH} {s t i j:Nat} {vs:List AV} (h:own.kz s t i j vs=some l8):own.put s (l8 s)=l8:=by
 unfold AH.kz at h;cases hg:own.get s t with
 | none=>simp [hg]at h
 | some b =>
  simp only[hg]at h;cases he:b.es[i]? with
  | none=>simp [he]at h
  | some cs =>
   simp only[he]at h;split at h
   ·obtain rfl:=Option.some.inj h
    rw[AH.j5]
   ·cases h
theorem Um (hC:GT P num C) (hm:BP B S w0 m) (hs:CN B S m ρ a.eval) {Bx:DY} (g8:A8 P num o.op Bx=true) {E:CB} (h:c9 C b9 ρ m.own Bx=some E):CS B S w0 P o a m E:=by
 cases Bx with
 | b7 x=>simp only[c9,Option.some.injEq]at h;subst h;exact Uw hm hs g8
 | s9 s z=>simp only[c9,Option.some.injEq]at h;subst h;exact Vd hm g8
 | pick c x y =>
  simp only[c9]at h;split at h
  ·rename_i hc;simp only[Option.some.injEq]at h;subst h;exact lW hm hs g8 hc
  ·rename_i hc;simp only[Option.some.injEq]at h;subst h;exact lW hm hs g8 hc
  ·cases h
 | bin f x y =>
  simp only[c9]at h;split at h
  ·rename_i k n k' n' hx hy
   simp only[Option.map_eq_some_iff]at h;obtain ⟨v,hv,rfl⟩:=h;exact Vu hm hs g8 hx hy hv
  ·cases h
 | qh ne n x y =>
  simp only[c9]at h;split at h
  ·rename_i cs ds hx hy
   split at h
   ·rename_i a b ha hb
    split at h
    ·rename_i hn
     simp only[Option.some.injEq]at h;subst h;exact Rz hm hs g8 hx hy ha hb hn
    ·cases h
   ·cases h
  ·cases h
 | beq ne x y =>
  simp only[c9]at h;split at h
  ·rename_i b b' hx hy
   simp only[Option.some.injEq]at h;subst h;exact Vt hm hs g8 hx hy
  ·cases h
 | un f x =>
  simp only[c9,Option.map_eq_some_iff]at h;obtain ⟨v,hv,rfl⟩:=h;exact Vc hm hs g8 hv
 | conv k x =>
  simp only[c9]at h;split at h
  ·rename_i k' n hx
   simp only[Option.some.injEq]at h;subst h;exact Wg hm hs g8 hx
  ·cases h
 | box s x =>
  simp only[c9]at h;split at h
  ·rename_i cs gv
   simp only[Option.some.injEq]at h;subst h;exact Vv hm hs g8 gv
  ·cases h
 | alloc s z=>simp only[c9,Option.some.injEq]at h;subst h;exact Sa hm g8
 | build z ps =>
  simp only[c9,Option.map_eq_some_iff]at h;obtain ⟨cs,gv,rfl⟩:=h;exact Vx hm hs g8 gv
 | c7 s a7 ps =>
  simp only[c9]at h;split at h
  ·rename_i es ix
   split at h
   ·rename_i hz
    simp only[Option.some.injEq]at h;subst h;exact Vw hm hs g8 ix hz
   ·cases h
  ·cases h
 | a6 x off =>
  simp only[c9]at h;split at h
  ·rename_i s t i j hx
   simp only[Option.some.injEq]at h;subst h;exact Wl hm hs g8 hx
  ·rename_i cs hx
   simp only[Option.some.injEq]at h;subst h;exact Wk hm hs g8 hx
  ·cases h
 | nc x off n agg =>
  simp only[c9]at h;split at h
  ·rename_i cs hx
   split at h
   ·rename_i ds hp
    simp only[Option.map_eq_some_iff]at h;obtain ⟨v,hv,rfl⟩:=h;exact Wm hm hs g8 hx hp hv
   ·cases h
  ·cases h
 | a5 arr a7 x i =>
  simp only[c9]at h;split at h
  ·rename_i k n hi
   split at h
   ·rename_i len s t i' j hx
    split at h
    ·rename_i hn
     simp only[Option.some.injEq]at h;subst h;exact Wn hm hs g8 hi hx hn.1 hn.2
    ·cases h
   ·rename_i len cs hx
    split at h
    ·rename_i hn
     simp only[Option.some.injEq]at h;subst h;exact Wo hm hs g8 hi hx hn.1 hn.2
    ·cases h
   ·rename_i s t z off len hx
    split at h
    ·rename_i hn
     simp only[Option.some.injEq]at h;subst h;exact Wp hm hs g8 hi hx hn.1 hn.2.1 hn.2.2
    ·cases h
   ·rename_i l es hx
    split at h
    ·rename_i h0
     split at h
     ·rename_i cs gv
      split at h
      ·rename_i hz
       simp only[Option.some.injEq]at h;subst h;exact Wq hm hs g8 hi hx h0 gv hz
      ·cases h
     ·cases h
    ·cases h
   ·cases h
  ·cases h
 | idx len a7 agg x i =>
  simp only[c9]at h;split at h
  ·rename_i k n cs hi hx
   split at h
   ·rename_i hn
    split at h
    ·rename_i ds hp
     simp only[Option.map_eq_some_iff]at h;obtain ⟨v,hv,rfl⟩:=h;exact Wr hm hs g8 hi hx hn.1 hn.2 hp hv
    ·cases h
   ·cases h
  ·cases h
 | ld agg n x =>
  simp only[c9]at h;split at h
  ·rename_i s t i j hx
   split at h
   ·rename_i cs gv
    simp only[Option.map_eq_some_iff]at h;obtain ⟨v,hv,rfl⟩:=h;exact Ws hm hs g8 hx (AeO gv) hv
   ·cases h
  ·rename_i cs hx
   split at h
   ·rename_i ds hp
    simp only[Option.map_eq_some_iff]at h;obtain ⟨v,hv,rfl⟩:=h;exact lV hm hs g8 hx hp hv
   ·cases h
  ·cases h
 | sn agg n x =>
  simp only[c9]at h;split at h
  ·rename_i cs hx
   split at h
   ·rename_i ds hp
    simp only[Option.map_eq_some_iff]at h;obtain ⟨v,hv,rfl⟩:=h;exact lV hm hs (show A8 P num _ (.ld agg n x)=true from g8) hx hp hv
   ·cases h
  ·cases h
 | st n x v =>
  simp only[c9]at h;split at h
  ·rename_i s t i j vs hx gj
   split at h
   ·rename_i hn
    simp only[Option.map_eq_some_iff]at h;obtain ⟨l8,ho,rfl⟩:=h;exact mA hm hs g8 hx gj hn ho
   ·cases h
  ·cases h
 | mk s a7 bytes zero l c =>
  simp only[c9]at h;split at h
  ·rename_i kl a' kc b' hl hc
   split at h
   ·rename_i hn
    simp only[Option.some.injEq]at h;subst h;exact Ur hm hs g8 hl hc hn.1 hn.2.1 hn.2.2.1 hn.2.2.2.1 hn.2.2.2.2
   ·cases h
  ·cases h
 | fg a7 x lo hi =>
  simp only[c9]at h;have Nr : ∀ (d:Nat) (y:Option AP) (q:Nat),(match y with|none=>some d|some o=>match ρ o with | .int _ n=>if 0<=n/\n<=d then some n.toNat else none|_=>none)=some q -> ∃ n:Int,G9 ρ d y=some n/\0<=n/\n<=d/\q=n.toNat:=λ d y q hq=>by
   cases y with
   | none=>simp only[Option.some.injEq]at hq;subst hq;exact ⟨d,rfl,by omega,by omega,by simp⟩
   | some y =>
    simp only at hq;cases hy:ρ y with
    | int k n =>
     simp only[hy]at hq;split at hq
     ·rename_i hn
      simp only[Option.some.injEq]at hq;subst hq;exact ⟨n,by simp [G9,hy],hn.1,hn.2,rfl⟩
     ·cases hq
    | _=>simp [hy]at hq
  have Df : ∀ (y:Option AP) (q:Nat),(match y with|none=>some 0|some o=>match ρ o with | .int _ n=>if 0<=n then some n.toNat else none|_=>none)=some q -> ∃ n:Int,G9 ρ 0 y=some n/\0<=n/\q=n.toNat:=λ y q hq=>by
   cases y with
   | none=>simp only[Option.some.injEq]at hq;subst hq;exact ⟨0,rfl,by omega,by simp⟩
   | some y =>
    simp only at hq;cases hy:ρ y with
    | int k n =>
     simp only[hy]at hq;split at hq
     ·rename_i hn
      simp only[Option.some.injEq]at hq;subst hq;exact ⟨n,by simp [G9,hy],hn,rfl⟩
     ·cases hq
    | _=>simp [hy]at hq
  have Dg : ∀ (y:Option AP) (q:Nat),(match y with|none=>some 0|some o=>match ρ o with | .int _ n=>if n=0 then some 0 else none|_=>none)=some q->G9 ρ 0 y=some 0:=λ y q hq=>by
   cases y with
   | none=>rfl
   | some y =>
    simp only at hq;cases hy:ρ y with
    | int k n =>
     simp only[hy]at hq;split at hq
     ·rename_i hn
      subst hn;simp [G9,hy]
     ·cases hq
    | _=>simp [hy]at hq
  split at h
  ·rename_i l es hx
   split at h
   ·rename_i q1 q2 h1 h2
    split at h
    ·rename_i hq
     simp only[Option.some.injEq]at h;subst h;obtain ⟨n1,b1,c1,rfl⟩:=Df _ _ h1;obtain ⟨n2,b2,c2,c3,rfl⟩:=Nr _ _ _ h2;exact Vb hm hs g8 hx b1 b2 c1 (by omega) c3 hq.2
    ·cases h
   ·cases h
  ·rename_i hx
   split at h
   ·rename_i q1 q2 h1 h2
    simp only[Option.some.injEq]at h;subst h;exact Uz hm hs g8 hx (Dg _ _ h1) (Dg _ _ h2)
   ·cases h
  ·rename_i s t z off len hx
   split at h
   ·rename_i q1 q2 h1 h2
    split at h
    ·rename_i hq
     simp only[Option.some.injEq]at h;subst h;obtain ⟨n1,b1,c1,rfl⟩:=Df _ _ h1;obtain ⟨n2,b2,c2,c3,rfl⟩:=Nr _ _ _ h2;exact Va hm hs g8 hx b1 b2 c1 (by omega) c3 hq.2
    ·cases h
   ·cases h
  ·cases h
 | ext x i =>
  simp only[c9]at h;split at h
  ·rename_i vs hx
   simp only[Option.map_eq_some_iff]at h;obtain ⟨v,hv,rfl⟩:=h;exact Wj hm hs g8 hx hv
  ·cases h
 | len x =>
  simp only[c9]at h;split at h
  ·rename_i n hn
   simp only[Option.some.injEq]at h;subst h;exact Wt hm hs g8 hn
  ·cases h
 | mm mx xs =>
  simp only[c9]at h;split at h
  ·cases h
  ·rename_i v r hx
   simp only[Option.map_eq_some_iff]at h;obtain ⟨q,hq,rfl⟩:=h;exact Uv hm hs g8 hx hq
 | app s a7 bytes x y =>
  simp only[c9]at h;split at h
  ·rename_i ys oy
   split at h
   ·rename_i hz
    split at h
    ·rename_i s' t z len hx
     split at h
     ·rename_i b hb
      split at h
      ·rename_i hn
       obtain ⟨n1,rfl,n3,n4,n5⟩:=hn;simp only[Option.some.injEq]at h;subst h;exact lS hm hs g8 oy hz hx hb n1 n3 n4 n5
      ·cases h
     ·cases h
    ·rename_i hx
     split at h
     ·rename_i hn
      simp only[Option.some.injEq]at h;subst h;exact Sc hm hs g8 oy hz hx hn.1 hn.2
     ·cases h
    ·cases h
   ·cases h
  ·cases h
 | oa a7 x y =>
  simp only[c9]at h;split at h
  ·rename_i s t z off len ys hx oy
   split at h
   ·rename_i b hb
    split at h
    ·rename_i hn
     obtain ⟨n1,rfl,n3,n4⟩:=hn;simp only[Option.some.injEq]at h;subst h;exact Wi hm hs g8 oy n4 hx hb n1 n3
    ·cases h
   ·cases h
  ·cases h
 | call f xs =>
  simp only[c9]at h;split at h
  ·rename_i vs gj
   simp only[Option.map_eq_some_iff]at h;obtain ⟨r,hr,rfl⟩:=h;exact Vy hC hm hs g8 (AeX gj) hr
  ·cases h
 | e9 f xs =>
  simp only[c9,Option.map_eq_some_iff]at h;obtain ⟨r,hr,rfl⟩:=h;exact lT hC hm hs g8 hr
 | rh ne x =>
  simp only[c9]at h;split at h
  ·rename_i hx
   simp only[Option.some.injEq]at h;subst h;exact YC hm hs g8 (b:=true) λ v hv=>by rw[hx]at hv;exact ⟨none,0,0,PE hv,rfl⟩
  ·rename_i b hx
   simp only[Option.some.injEq]at h;subst h;exact YC hm hs g8 (b:=b) λ v hv=>by
    rw[hx]at hv;obtain ⟨ad,c,h1,h2⟩:=kZ hv;exact ⟨ad,0,c,h1,h2⟩
  ·rename_i hx
   simp only[Option.some.injEq]at h;subst h;exact YC hm hs g8 (b:=false) λ v hv=>by rw[hx]at hv;exact Sp hv
  ·rename_i hx
   simp only[Option.some.injEq]at h;subst h;exact YC hm hs g8 (b:=false) λ v hv=>by rw[hx]at hv;exact So hv
  ·cases h
 | bad =>
  have h:(none:Option CB)=some E:=h;cases h
 | su x =>
  simp only[c9]at h;split at h
  ·rename_i hx
   simp only[Option.some.injEq]at h;subst h;exact Ux hm hs g8 hx
  ·cases h
 | er x =>
  simp only[c9]at h;split at h
  ·rename_i hx
   simp only[Option.some.injEq]at h;subst h;exact Wf hm hs g8 hx
  ·cases h
 | bg s f xs =>
  simp only[c9,Option.map_eq_some_iff]at h;obtain ⟨p,hp,rfl⟩:=h;exact lT hC hm hs (Aen g8) (XX.1 hp m.own rfl)
 | nw s a7 bytes x y =>
  simp only[c9]at h;split at h
  ·rename_i q ys hx hy
   split at h
   ·rename_i hn
    simp only[Option.some.injEq]at h;subst h;exact Sb hm hs g8 (ys:=ys) (by rw[hy];rfl) hn.1 hx hn.2.1 hn.2.2.1 hn.2.2.2
   ·cases h
  ·cases h
 | nb s a7 bytes x y =>
  simp only[c9]at h;split at h
  ·rename_i k n hx hy
   split at h
   ·rename_i hn
    simp only[Option.some.injEq]at h;subst h;exact Vs hm hs g8 hx hy hn.1 hn.2.1 hn.2.2
   ·cases h
  ·cases h
 | fy tb x =>
  simp only[c9]at h;split at h
  ·rename_i k n hx
   split at h
   ·rename_i h0
    split at h
    ·rename_i v hv
     simp only[Option.some.injEq]at h;subst h;exact Uy hm hs g8 hx h0 hv
    ·cases h
   ·cases h
  ·cases h
 | pd p f xs =>
  simp only[c9,Option.map_eq_some_iff]at h;obtain ⟨cs,gv,rfl⟩:=h;rw[hC.num];exact Ut hm hs g8 gv
 | qg f x =>
  simp only[c9]at h;split at h
  ·rename_i c cs hx
   simp only[Option.some.injEq]at h;subst h;rw[hC.num];exact Us hm hs g8 hx
  ·cases h
 | l9 f xs =>
  simp only[c9]at h;split at h
  ·rename_i hq
   split at h
   ·rename_i r hr
    split at h
    ·rename_i df
     simp only[Option.some.injEq]at h;subst h;exact Wb hC hm hs g8 hq hr df
    ·cases h
   ·cases h
  ·cases h
 | o9 s f xs =>
  simp only[c9]at h;split at h
  ·rename_i vs gj
   simp only[Option.map_eq_some_iff]at h;obtain ⟨⟨z,es⟩,hr,rfl⟩:=h;exact Wc hC hm hs g8 (AeZ gj) hr
  ·cases h
 | dj s a7 bytes x y =>
  simp only[c9]at h;split at h
  ·rename_i l ys s' t z len hy hx
   split at h
   ·rename_i b hb
    split at h
    ·rename_i hn
     obtain ⟨rfl,hz,n1,rfl,n3,n4,n5⟩:=hn;simp only[Option.some.injEq]at h;subst h;have:=lS hm hs (Aed g8) (ys:=ys) (by rw[hy];rfl) hz hx hb n1 n3 n4 n5
     intro K Q hK;exact this K Q λ u m' h1 h2 h3 h4=>hK u m' h1 h2 h3 h4
    ·cases h
   ·cases h
  ·cases h
 | na s n x v =>
  simp only[c9]at h;split at h
  ·rename_i s' t i j vs hx gj
   split at h
   ·rename_i hn
    obtain ⟨rfl,hn⟩:=hn;simp only[Option.map_eq_some_iff]at h;obtain ⟨l8,ho,rfl⟩:=h;have:=mA hm hs (AeE g8) hx gj hn ho
    intro K Q hK;refine this K Q λ u m' h1 h2 h3 h4=>hK u m' ?_ h2 h3 h4
    rw[h1];exact (AgJ ho).symm
   ·cases h
  ·cases h
 | m9 x xs =>
  simp only[c9]at h;split at h
  ·rename_i p f g cs hx
   split at h
   ·rename_i hg
    rw[hC.num]at hg;subst hg;split at h
    ·split at h
     ·rename_i vs gj
      simp only[Option.map_eq_some_iff]at h;obtain ⟨r,hr,rfl⟩:=h;exact Wa hC hm hs g8 hx gj hr
     ·cases h
    ·simp only[Option.map_eq_some_iff]at h
     obtain ⟨r,hr,rfl⟩:=h;exact We hC hm hs g8 hx hr
    ·split at h
     ·rename_i vs gj
      simp only[Option.map_eq_some_iff]at h;obtain ⟨r,hr,rfl⟩:=h;exact Vz hC hm hs g8 hx gj hr
     ·cases h
   ·cases h
  ·cases h
end
end Go.c5
namespace Go.c5
open Go.RowKit
def EI (T:Nat->AV):AP->AV
 | .t n=>T n
 | .c v=>v
def IV (T:Nat->AV) (d:Option Nat) (v:AV):Nat->AV:=λ j=>if d=some j then v else T j
def KR (T:Nat->AV):Option (Nat × Bool)->Option Bool
 | none=>some true
 | some (g,want)=>match T g with
  | .bool b=>some (b == want)
  | .g7 []=>some false
  | _=>none
theorem nA (st:St):st.ev=EI (g6 st.tm):=by funext x;cases x<;>rfl
theorem Zq (st:St) (g:Option (Nat × Bool)):FE st g=KR (g6 st.tm) g:=rfl
theorem mJ (st:St) (d:Option Nat) (v:AV):g6 (st.dst d v).tm=IV (g6 st.tm) d v:=by
 cases d with
 | none=>funext j;simp [St.dst,IV]
 | some d =>
  funext j
  simp only[St.dst,IV,WT];by_cases h:j=d
  ·simp [h]
  ·simp [h,Ne.symm h]
theorem zO (st:St) (d:Option Nat) (E:CB):g6 (st.app d E).tm=IV (g6 st.tm) d (E.valOf st.own):=by
 cases E<;>simp only[St.app,CB.valOf]<;>exact mJ st d _
theorem mK (st:St) (d:Option Nat) (v:AV):(st.dst d v).own=st.own:=by cases d<;>rfl
theorem zN (st:St) (d:Option Nat) (E:CB):(st.app d E).own=E.w3 st.own:=by
 cases E with
 | val v=>simp only[St.app,CB.w3];exact mK st d v
 | _=>rfl
section
variable {B:Nat} {S:Nat->Prop} {w0:World} {m0:M} {N:Nat}
variable {P:Program} {num:Nat->Nat} {C:Cl} {Q:Exit->Act->World->Prop}
structure FF (B:Nat) (S:Nat->Prop) (w0:World) (m0:M) (N:Nat) (T:Nat->AV) (m:M) (a:Act):Prop where
 mem:BP B S w0 m
 ext:DG B S m0 m
 tm : ∀ i,CV B S m (T i) (a.tmps.getD i undef)
 size:a.tmps.size=N
 defers:a.defers=[]
theorem FF.put {T:Nat->AV} {m m':M} {a:Act} (h:FF B S w0 m0 N T m a) (d:Option Nat) (hd : ∀ k,d=some k->k<N) {v:AV} {u:Value} (hm:BP B S w0 m') (he:DG B S m m') (hc:CV B S m' v u):FF B S w0 m0 N (IV T d v) m' (a.put d u):=by
 refine ⟨hm,h.ext.trans he,λ i => ?_,?_,?_⟩
 ·cases d with
  | none=>simpa [IV,Act.put] using he.cv (h.tm i)
  | some k =>
   have hk:k<a.tmps.size:=by rw[h.size];exact hd k rfl
   by_cases mg:i=k
   ·subst mg
    simp only[IV,if_true,Act.put];simpa [Array.getD,hk] using hc
   ·have k9 : ¬ (some k=some i):=λ e=>mg (by simpa using e.symm)
    simp only[IV,if_neg k9,Act.put];have:(a.tmps.setIfInBounds k u).getD i undef=a.tmps.getD i undef:=by
     simp [Array.getElem?_setIfInBounds_ne (Ne.symm mg)]
    rw[this];exact he.cv (h.tm i)
 ·cases d<;>simp [Act.put,h.size]
 ·cases d<;>simpa [Act.put] using h.defers
theorem FF.says {T:Nat->AV} {m:M} {a:Act} (h:FF B S w0 m0 N T m a):CN B S m (EI T) a.eval:=Agc (λ_=>rfl) (λ_=>rfl) h.tm
theorem Ag2 {T:Nat->AV} {m:M} {a:Act} (h:FF B S w0 m0 N T m a) {ops:Array Oper} {o:Oper} {g':Option (Nat × Bool)} (hg:V1 ops o.guard g'=true) {g:Bool} (qo:KR T g'=some g):Region.wanted o (yielded ops a.tmps)=g:=by
 unfold Region.wanted;cases Lk:o.guard with
 | none =>
  cases g' with
  | none=>simp [KR]at qo;simp [qo]
  | some _=>simp [V1,Lk]at hg
 | some jw =>
  obtain ⟨j,want⟩:=jw;cases g' with
  | none=>simp [V1,Lk]at hg
  | some tw =>
   obtain ⟨t,Rs⟩:=tw;simp only[V1,Lk,Bool.and_eq_true,beq_iff_eq]at hg;obtain ⟨rfl,hg⟩:=hg;split at hg
   ·rename_i oj Ho
    have Kg:oj.dst=some t:=by simpa using hg
    have s8:=h.tm t;simp only[KR]at qo;unfold yielded;simp only[Ho,Option.bind_some,Kg];split at qo
    ·rename_i b hb
     rw[hb]at s8;have hv:=RG s8;have l7:a.tmps[t]? = some (.bool b):=by
      cases ht:a.tmps[t]? with
      | none=>simp [ht,undef]at hv
      | some x=>simp [ht]at hv;rw[hv]
     simp only[l7];simp at qo;rw[<-qo];cases b<;>cases want<;>rfl
    ·rename_i hb
     rw[hb]at s8;obtain ⟨vs,hv,hl,_⟩:=bJ s8;have:vs=[]:=List.eq_nil_of_length_eq_zero (by simpa using hl.symm)
     subst this;simp at qo;subst qo;cases ht:a.tmps[t]? with
     | none=>rfl
     | some x =>
      simp [ht]at hv;subst hv;rfl
    ·cases qo
   ·cases hg
theorem vD (hC:GT P num C) {ops:Array Oper} {i:Nat} {o:Oper} {ai:AI} (hi:ops[i]? = some o) (g8:Y4 P num N ops o ai=true) {T:Nat->AV} {m:M} {a:Act} (hf:FF B S w0 m0 N T m a) {g:Bool} (hg:KR T ai.guard=some g) {E:CB}
  (hE:g=true->c9 C ai.b9 (EI T) m.own ai.op=some E) {K:Act->World->Prop} (hK : ∀ m' a',m'.own=(if g then E.w3 m.own else m.own)->FF B S w0 m0 N (IV T ai.dst (if g then E.valOf m.own else .g7 [])) m' a'->K a' m'.w):wpOp P ops Q i K a m.w:=by
 simp only[Y4,Bool.and_eq_true,beq_iff_eq]at g8;obtain ⟨⟨⟨h1,h2⟩,h3⟩,h4⟩:=g8;have hd : ∀ k,o.dst=some k->k<N:=λ k hk=>by
  rw[h1]at hk;rw[hk]at h2;simpa using h2
 unfold wpOp;simp only[hi,Ag2 hf h3 hg];cases g with
 | true =>
  simp only[if_true];refine .inl (Um hC hf.mem hf.says h4 (hE rfl) K Q λ u m' j9 lu fr s8 => ?_);refine hK m' _ (by simpa using j9) ?_;rw[<-h1];exact hf.put o.dst hd lu fr s8
 | false =>
  simp only[Bool.false_eq_true,if_false];refine hK m _ (by simp) ?_;rw[<-h1];exact hf.put o.dst hd hf.mem (DG.refl m) qH
theorem uC {o:AI} {st j7:St} (h:C8 C o st=some j7) : ∃ g E,KR (g6 st.tm) o.guard=some g/\(g=true->c9 C o.b9 (EI (g6 st.tm)) st.own o.op=some E)/\g6 j7.tm=IV (g6 st.tm) o.dst (if g then E.valOf st.own else .g7 [])/\j7.own=(if g then E.w3 st.own else st.own):=by
 unfold C8 at h;rw[Zq]at h;cases hg:KR (g6 st.tm) o.guard with
 | none=>simp [hg]at h
 | some g =>
  cases g with
  | true =>
   simp only[hg,Option.map_eq_some_iff]at h;obtain ⟨E,hE,rfl⟩:=h;rw[nA]at hE;exact ⟨true,E,rfl,λ_=>hE,zO st o.dst E,zN st o.dst E⟩
  | false =>
   simp only[hg,Option.some.injEq]at h;subst h;exact ⟨false,.val .any,rfl,λ h=>(by cases h),mJ st o.dst _,mK st o.dst _⟩
theorem V2 {ops:Array Oper} : ∀ {os:List Oper} {l:List AI},PP P num N ops os l=true->os.length=l.length /\ ∀ (i:Nat) (o:Oper) (x:AI),os[i]? = some o->l[i]? = some x->Y4 P num N ops o x=true
 | [],[],_=>⟨rfl,λ i o x h=>by simp at h⟩
 | o::r,x::l,h=>by
  simp only[PP,Bool.and_eq_true]at h;obtain ⟨h1,h2⟩:=V2 h.2;refine ⟨by simp [h1],λ i o' x' ho hx => ?_⟩;cases i with
  | zero=>simp at ho hx;subst ho hx;exact h.1
  | succ i=>exact h2 i o' x' (by simpa using ho) (by simpa using hx)
 | [],_::_,h=>by simp [PP]at h
 | _::_,[],h=>by simp [PP]at h
theorem vE (hC:GT P num C) {ops:Array Oper} {l:List AI} (g8:PP P num N ops ops.toList l=true) : ∀ (n k:Nat) (st j7:St) (m:M) (a:Act),n+k=ops.size->DB C (l.drop k) st=some j7->m.own=st.own->FF B S w0 m0 N (g6 st.tm) m a ->
  (∀ m' a',m'.own=j7.own->FF B S w0 m0 N (g6 j7.tm) m' a'->Q .normal a' m'.w)->wpOps P ops Q (List.range' k n) a m.w
 | 0,k,st,j7,m,a,hk,hs,j9,hf,hQ=>by
  have hl:=(V2 g8).1;simp at hl;rw[List.drop_eq_nil_of_le (by omega)]at hs;simp only[DB,Option.some.injEq]at hs;subst hs;simpa [wpOps] using hQ m a j9 hf
 | n+1,k,st,j7,m,a,hk,hs,j9,hf,hQ=>by
  obtain ⟨hl,hg⟩:=V2 g8;simp at hl;have nj:k<l.length:=by omega
  have Pw:k<ops.size:=by omega
  rw[List.drop_eq_getElem_cons nj]at hs;simp only[DB]at hs;cases j6:C8 C l[k] st with
  | none=>simp [j6]at hs
  | some BA =>
   simp only[j6]at hs;obtain ⟨g,E,h1,h2,h3,h4⟩:=uC j6;rw[List.range'_succ,wpOps_cons];have hoi:ops[k]? = some ops[k]:=Array.getElem?_eq_getElem Pw;refine vD hC hoi (hg k ops[k] l[k] (by simp [Pw]) (zE nj)) hf h1 (λ ct=>by rw[j9];exact h2 ct) λ m' a' ke me => ?_
   refine vE hC g8 n (k+1) BA j7 m' a' (by omega) hs ?_ ?_ hQ
   ·rw[ke,j9,h4]
   ·rw[j9]at me
    rw[h3];exact me
end
end Go.c5

namespace Go.c5
open Go.RowKit
section
variable {T T':Nat->AV} {C:Cl} {b9:List Nat} {own:AH}
theorem CZ {x:AP} (h : ∀ t∈CJ x,T t=T' t):EI T x=EI T' x:=by
 cases x with
 | t n=>exact h n (by simp [CJ])
 | c v=>rfl
theorem RV {xs:List AP} (h : ∀ t∈xs.flatMap CJ,T t=T' t):xs.map (EI T)=xs.map (EI T') :=
 List.map_congr_left λ x hx=>CZ λ t ht=>h t (List.mem_flatMap.2 ⟨x,hx,ht⟩)
theorem rH {x:Option AP} (h : ∀ t∈eR x,T t=T' t) {y:AP} (hy:x=some y):EI T y=EI T' y:=by
 subst hy;exact CZ h
theorem Vr {op:DY} (h : ∀ t∈FR op,T t=T' t):c9 C b9 (EI T) own op=c9 C b9 (EI T') own op:=by
 cases op with
 | build z ps =>
  simp only[c9];congr 2;refine List.map_congr_left λ p hp => ?_
  rw[CZ (x:=p.2.2) λ t ht=>h t (by simp only[FR];exact List.mem_flatMap.2 ⟨p,hp,ht⟩)]
 | c7 s a7 ps =>
  have hm:ps.mapM (λ x=>cellsOf (EI T x))=ps.mapM (λ x=>cellsOf (EI T' x)):=by
   have e : ∀ l:List AP,(∀ x∈l,EI T x=EI T' x)->l.mapM (λ x=>cellsOf (EI T x))=l.mapM (λ x=>cellsOf (EI T' x)):=by
    intro l;induction l with
    | nil=>intro _;rfl
    | cons x r ih=>intro hl;simp only[List.mapM_cons];rw[hl x (by simp),ih λ y hy=>hl y (by simp [hy])]
   exact e ps λ x hx=>CZ λ t ht=>h t (by simp only[FR];exact List.mem_flatMap.2 ⟨x,hx,ht⟩)
  simp only[c9,hm]
 | mm mx xs=>simp only[c9];rw[RV (xs:=xs) h]
 | call f xs=>simp only[c9];rw[RV (xs:=xs) h]
 | e9 f xs=>simp only[c9];rw[RV (xs:=xs) h]
 | rh ne x=>simp only[c9];rw[CZ (x:=x) h]
 | bad=>rfl
 | su x=>simp only[c9];rw[CZ (x:=x) h]
 | er x=>simp only[c9];rw[CZ (x:=x) h]
 | nb s a7 bytes x y =>
  simp only[FR,List.mem_append]at h;simp only[c9];rw[CZ (x:=x) λ t ht=>h t (.inl ht),CZ (x:=y) λ t ht=>h t (.inr ht)]
 | nw s a7 bytes x y =>
  simp only[FR,List.mem_append]at h;simp only[c9];rw[CZ (x:=x) λ t ht=>h t (.inl ht),CZ (x:=y) λ t ht=>h t (.inr ht)]
 | fy tb x=>simp only[c9];rw[CZ (x:=x) h]
 | pd p f xs =>
  have e : ∀ l:List AP,(∀ x∈l,EI T x=EI T' x)->l.mapM (λ x=>GM (EI T x))=l.mapM (λ x=>GM (EI T' x)):=by
   intro l;induction l with
   | nil=>intro _;rfl
   | cons x r ih=>intro hl;simp only[List.mapM_cons];rw[hl x (by simp),ih λ y hy=>hl y (by simp [hy])]
  simp only[c9];rw[e xs λ x hx=>CZ λ t ht=>h t (by simp only[FR];exact List.mem_flatMap.2 ⟨x,hx,ht⟩)]
 | qg f x=>simp only[c9];rw[CZ (x:=x) h]
 | l9 f xs=>simp only[c9];rw[RV (xs:=xs) h]
 | o9 s f xs=>simp only[c9];rw[RV (xs:=xs) h]
 | bg s f xs=>simp only[c9];rw[RV (xs:=xs) h]
 | na s n x v =>
  simp only[FR,List.mem_append]at h;simp only[c9];rw[CZ (x:=x) λ t ht=>h t (.inl ht),CZ (x:=v) λ t ht=>h t (.inr ht)]
 | m9 x xs =>
  simp only[FR,List.mem_append]at h;simp only[c9];rw[CZ (x:=x) λ t ht=>h t (.inl ht),RV (xs:=xs) λ t ht=>h t (.inr ht)]
 | fg a7 x lo hi =>
  simp only[FR,List.mem_append]at h;have hx:EI T x=EI T' x:=CZ λ t ht=>h t (.inl (.inl ht))
  have nk : ∀ y,lo=some y->EI T y=EI T' y:=λ y hy=>rH (λ t ht=>h t (.inl (.inr ht))) hy
  have Hi : ∀ y,hi=some y->EI T y=EI T' y:=λ y hy=>rH (λ t ht=>h t (.inr ht)) hy
  simp only[c9,hx];cases lo with
  | none=>cases hi with
   | none=>rfl
   | some y=>simp only[Hi y rfl]
  | some z=>cases hi with
   | none=>simp only[nk z rfl]
   | some y=>simp only[nk z rfl,Hi y rfl]
 | s9=>rfl
 | alloc=>rfl
 | b7 x=>simp only[c9];rw[CZ (x:=x) h]
 | un f x=>simp only[c9];rw[CZ (x:=x) h]
 | conv k x=>simp only[c9];rw[CZ (x:=x) h]
 | box s x=>simp only[c9];rw[CZ (x:=x) h]
 | a6 x off=>simp only[c9];rw[CZ (x:=x) h]
 | nc x off n agg=>simp only[c9];rw[CZ (x:=x) h]
 | ld agg n x=>simp only[c9];rw[CZ (x:=x) h]
 | sn agg n x=>simp only[c9];rw[CZ (x:=x) h]
 | ext x i=>simp only[c9];rw[CZ (x:=x) h]
 | len x=>simp only[c9];rw[CZ (x:=x) h]
 | pick c x y =>
  simp only[FR,List.mem_append]at h;simp only[c9];rw[CZ (x:=c) λ t ht=>h t (.inl (.inl ht)),CZ (x:=x) λ t ht=>h t (.inl (.inr ht)),CZ (x:=y) λ t ht=>h t (.inr ht)]
 | bin f x y =>
  simp only[FR,List.mem_append]at h;simp only[c9];rw[CZ (x:=x) λ t ht=>h t (.inl ht),CZ (x:=y) λ t ht=>h t (.inr ht)]
 | qh ne n x y =>
  simp only[FR,List.mem_append]at h;simp only[c9];rw[CZ (x:=x) λ t ht=>h t (.inl ht),CZ (x:=y) λ t ht=>h t (.inr ht)]
 | beq ne x y =>
  simp only[FR,List.mem_append]at h;simp only[c9];rw[CZ (x:=x) λ t ht=>h t (.inl ht),CZ (x:=y) λ t ht=>h t (.inr ht)]
 | a5 arr a7 x i =>
  simp only[FR,List.mem_append]at h;simp only[c9];rw[CZ (x:=x) λ t ht=>h t (.inl ht),CZ (x:=i) λ t ht=>h t (.inr ht)]
 | idx len a7 agg x i =>
  simp only[FR,List.mem_append]at h;simp only[c9];rw[CZ (x:=x) λ t ht=>h t (.inl ht),CZ (x:=i) λ t ht=>h t (.inr ht)]
 | st n x v =>
  simp only[FR,List.mem_append]at h;simp only[c9];rw[CZ (x:=x) λ t ht=>h t (.inl ht),CZ (x:=v) λ t ht=>h t (.inr ht)]
 | mk s a7 bytes z l c =>
  simp only[FR,List.mem_append]at h;simp only[c9];rw[CZ (x:=l) λ t ht=>h t (.inl ht),CZ (x:=c) λ t ht=>h t (.inr ht)]
 | app s a7 bytes x y =>
  simp only[FR,List.mem_append]at h;simp only[c9];rw[CZ (x:=x) λ t ht=>h t (.inl ht),CZ (x:=y) λ t ht=>h t (.inr ht)]
 | dj s a7 bytes x y =>
  simp only[FR,List.mem_append]at h;simp only[c9];rw[CZ (x:=x) λ t ht=>h t (.inl ht),CZ (x:=y) λ t ht=>h t (.inr ht)]
 | oa a7 x y =>
  simp only[FR,List.mem_append]at h;simp only[c9];rw[CZ (x:=x) λ t ht=>h t (.inl ht),CZ (x:=y) λ t ht=>h t (.inr ht)]
theorem pC (o:AH) (l:List Nat) (s:Nat):o.m4 l s=if s∈l then ⟨0,λ_=>none⟩ else o s:=by
 induction l with
 | nil=>simp [AH.m4]
 | cons x r ih =>
  simp only[AH.m4,List.mem_cons];by_cases h:s=x
  ·simp [h]
  ·rw[if_neg h,ih]
   simp [h]
theorem Zi {o o':AH} {l:List Nat} (h : ∀ s,s ∉ l->o s=o' s):o.m4 l=o'.m4 l:=by
 funext s
 rw[pC,pC];split
 ·rfl
 ·rename_i hs;exact h s hs
end
section
variable {ops:Array Oper}
def inner (acc:Array Nat) (o:Oper):Nat:=o.after.foldl (λ s e=>if Region.binds .any e then s ||| 2^e.on ||| acc.getD e.on 0 else s) 0
theorem Zl (acc:Array Nat) (o:Oper) (j:Nat) (h:(inner acc o).testBit j=true) : ∃ e∈o.after,Region.binds .any e=true/\(e.on=j\/(acc.getD e.on 0).testBit j=true):=by
 unfold inner at h;rw[<-Array.foldl_toList]at h;have key : ∀ (l:List Edge) (s:Nat),(l.foldl (λ s e=>if Region.binds .any e then s ||| 2^e.on ||| acc.getD e.on 0 else s) s).testBit j=true->s.testBit j=true \/ ∃ e∈l,Region.binds .any e=true/\(e.on=j\/(acc.getD e.on 0).testBit j=true):=by
  intro l;induction l with
  | nil=>intro s hs;exact .inl hs
  | cons e r ih =>
   intro s hs;simp only[List.foldl_cons]at hs;rcases ih _ hs with h1|⟨e',iw,h2⟩
   ·by_cases hb:Region.binds .any e=true
    ·simp only[hb,if_true,Nat.testBit_or,Bool.or_eq_true,Nat.testBit_two_pow,decide_eq_true_eq]at h1
     rcases h1 with (h1|h1)|h1
     ·exact .inl h1
     ·exact .inr ⟨e,by simp,hb,.inl h1⟩
     ·exact .inr ⟨e,by simp,hb,.inr h1⟩
    ·simp only[hb,Bool.false_eq_true,if_false]at h1
     exact .inl h1
   ·exact .inr ⟨e',by simp [iw],h2⟩
 rcases key _ _ h with h|⟨e,he,h⟩
 ·simp at h
 ·exact ⟨e,by simpa using he,h⟩
theorem zT (i j:Nat) (h:((Region.before ops).getD i 0).testBit j=true) : ∃ o,ops[i]? = some o /\ ∃ e∈o.after,Region.binds .any e=true/\(e.on=j\/(e.on<i/\((Region.before ops).getD e.on 0).testBit j=true)):=by
 have key : ∀ (rest:List Oper) (done:List Oper) (acc:Array Nat),acc.size=done.length ->
   (∀ i j,(acc.getD i 0).testBit j=true -> ∃ o,done[i]? = some o /\ ∃ e∈o.after,Region.binds .any e=true/\(e.on=j\/(e.on<i/\(acc.getD e.on 0).testBit j=true))) ->
   ∀ i j,((rest.foldl (λ acc o=>acc.push (inner acc o)) acc).getD i 0).testBit j=true -> ∃ o,(done++rest)[i]? = some o /\ ∃ e∈o.after,Region.binds .any e=true/\(e.on=j\/(e.on<i/\((rest.foldl (λ acc o=>acc.push (inner acc o)) acc).getD e.on 0).testBit j=true)):=by
  intro rest;induction rest with
  | nil=>intro done acc hs hinv i j hj;simpa using hinv i j hj
  | cons o r ih =>
   intro done acc hs hinv i j hj;simp only[List.foldl_cons]at hj ⊢;have:=ih (done++[o]) (acc.push (inner acc o)) (by simp [hs]) (λ i j eg => ?_) i j hj
   ·simpa using this
   ·have l7 : ∀ k,k<acc.size->(acc.push (inner acc o)).getD k 0=acc.getD k 0:=λ k hk=>by
     simp [Array.getD,hk,Nat.lt_succ_of_lt hk,Array.getElem_push_lt hk]
    by_cases hi:i<acc.size
    ·rw[l7 i hi]at eg
     obtain ⟨o',xi,e,he,hb,z7⟩:=hinv i j eg;refine ⟨o',by rw[List.getElem?_append_left (by omega)];exact xi,e,he,hb,z7.imp id λ⟨h1,h2⟩=>⟨h1,by rw[l7 e.on (by omega)];exact h2⟩⟩
    ·have Kv:i=acc.size:=by
      rcases Nat.lt_or_ge i (acc.push (inner acc o)).size with h1|h1
      ·simp at h1;omega
      ·have:(acc.push (inner acc o)).getD i 0=0:=by simp [Array.getD];intro h2;simp at h1;omega
       rw[this]at eg;simp at eg
     subst Kv;have kt:(acc.push (inner acc o)).getD acc.size 0=inner acc o:=by simp [Array.getD]
     rw[kt]at eg;obtain ⟨e,he,hb,z7⟩:=Zl acc o j eg;refine ⟨o,by rw[hs];simp,e,he,hb,z7.imp id λ h2 => ?_⟩;have k7:e.on<acc.size:=by
      rcases Nat.lt_or_ge e.on acc.size with h3|h3
      ·exact h3
      ·have:acc.getD e.on 0=0:=by simp [Array.getD];omega
       rw[this]at h2;simp at h2
     exact ⟨k7,by rw[l7 e.on k7];exact h2⟩
 have hb:Region.before ops=ops.toList.foldl (λ acc o=>acc.push (inner acc o)) #[]:=by
  unfold Region.before;rw[<-Array.foldl_toList];rfl
 rw[hb]at h ⊢;have:=key ops.toList [] #[] rfl (λ i j eg=>by simp at eg) i j h
 simpa using this
def SK (ops:Array Oper) (X:Nat->Bool):Prop := ∀ j o,X j=true->ops[j]? = some o -> ∀ e∈o.after,Region.binds .any e=true->X e.on=true
theorem Nm {X:Nat->Bool} (hX:SK ops X) : ∀ (i:Nat),(∀ o,ops[i]? = some o -> ∀ e∈o.after,Region.binds .any e=true->X e.on=true) -> ∀ j,((Region.before ops).getD i 0).testBit j=true->X j=true:=by
 intro i;induction i using Nat.strongRecOn with
 | ind i ih =>
  intro hi j hj;obtain ⟨o,ho,e,he,hb,z7⟩:=zT i j hj;have hx:=hi o ho e he hb;rcases z7 with h|⟨k7,h⟩
  ·rw[<-h];exact hx
  ·exact ih e.on k7 (λ o' xi e' iw k6=>hX e.on o' hx xi e' iw k6) j h
theorem Aft {X:Nat->Bool} (hX:SK ops X) {i j:Nat} (hi : ∀ o,ops[i]? = some o -> ∀ e∈o.after,Region.binds .any e=true->X e.on=true) (k7:j<i) (h:H5 (Region.before ops) i j=true):X j=true:=by
 unfold H5 at h;rw[Nat.max_eq_left (by omega),Nat.min_eq_right (by omega)]at h;exact Nm hX i hi j h
theorem rJ {X:Nat->Bool} (hX:SK ops X) {i j:Nat} (hj:X j=true) (k7:i<j) (h:H5 (Region.before ops) i j=true):X i=true:=by
 unfold H5 at h;rw[Nat.max_eq_right (by omega),Nat.min_eq_left (by omega)]at h;exact Nm hX j (λ o ho e he hb=>hX j o hj ho e he hb) i h
end
section
variable {C:Cl}
abbrev D:=(Nat->AV) × AH
structure DZ where
 d:Option Nat
 g:Bool
 E:CB
 v:AV
def DZ.own (r:DZ) (o:AH):AH:=if r.g then r.E.w3 o else o
def DZ.act (r:DZ) (x:D):D:=(IV x.1 r.d r.v,r.own x.2)
structure SL (C:Cl) (x:AI) (r:DZ) (s s':St):Prop where
 d:r.d=x.dst
 g:KR (g6 s.tm) x.guard=some r.g
 E:r.g=true->c9 C x.b9 (EI (g6 s.tm)) s.own x.op=some r.E
 v:r.v=(if r.g then r.E.valOf s.own else .g7 [])
 act:(g6 s'.tm,s'.own)=r.act (g6 s.tm,s.own)
theorem trace : ∀ {l:List AI} {st j7:St},DB C l st=some j7 -> ∃ (σ:Nat->St) (rs:List DZ),σ 0=st/\σ l.length=j7/\rs.length=l.length /\ ∀ (k:Nat) (x:AI) (r:DZ),l[k]? = some x->rs[k]? = some r->SL C x r (σ k) (σ (k+1))
 | [],st,j7,h=>by
  simp only[DB,Option.some.injEq]at h;subst h;exact ⟨λ_=>st,[],rfl,rfl,rfl,λ k x r hx=>by simp at hx⟩
 | o::q,st,j7,h=>by
  simp only[DB]at h;cases hs:C8 C o st with
  | none=>simp [hs]at h
  | some BA =>
   simp only[hs]at h;obtain ⟨σ,rs,h0,h1,hl,h2⟩:=trace h;obtain ⟨g,E,e1,e2,e3,e4⟩:=uC hs;refine ⟨λ k=>match k with|0=>st|k+1=>σ k,⟨o.dst,g,E,if g then E.valOf st.own else .g7 []⟩::rs,rfl,h1,by simp [hl],λ k x r hx hr => ?_⟩;cases k with
   | zero =>
    simp at hx hr;subst hx hr;refine ⟨rfl,e1,e2,rfl,?_⟩;show (g6 (σ 0).tm,(σ 0).own)=_;rw[h0,e3,e4];rfl
   | succ k=>exact h2 k x r (by simpa using hx) (by simpa using hr)
def DQ (X:Nat->Bool):List DZ->Nat->D->D
 | [],_,x=>x
 | r::rs,k,x=>DQ X rs (k+1) (if X k then r.act x else x)
theorem cU (X:Nat->Bool) : ∀ (l l':List DZ) (k:Nat) (x:D),DQ X (l++l') k x=DQ X l' (k+l.length) (DQ X l k x)
 | [],l',k,x=>by simp [DQ]
 | r::rs,l',k,x=>by
  simp only[List.cons_append,DQ,List.length_cons];rw[cU X rs l' (k+1)];congr 1;omega
theorem oN {X Y:Nat->Bool} {t:Nat} : ∀ (l:List DZ) (k:Nat) (x y:D),x.1 t=y.1 t->(∀ i r,l[i]? = some r->r.d=some t->X (k+i)=Y (k+i))->(DQ X l k x).1 t=(DQ Y l k y).1 t
 | [],k,x,y,h,_=>h
 | r::rs,k,x,y,h,tj=>by
  simp only[DQ];refine oN rs (k+1) _ _ ?_ λ i r' hr hd=>by
   have:=tj (i+1) r' (by simpa using hr) hd
   rw[show k+1+i=k+(i+1) by omega];exact this
  by_cases hd:r.d=some t
  ·have hx:X k=Y k:=by simpa using tj 0 r rfl hd
   rw[hx];cases Y k
   ·simpa using h
   ·simp [DZ.act,IV,hd]
  ·have e1 : ∀ z:D,(r.act z).1 t=z.1 t:=λ z=>by simp [DZ.act,IV,hd]
   cases X k<;>cases Y k<;>simp [e1,h]
theorem Afy (E:CB) (s:Nat) (o o':AH) (h:o s=o' s):E.w3 o s=E.w3 o' s:=by
 cases E with
 | val v=>exact h
 | new s' b v =>
  simp only[CB.w3,AH.put];by_cases hs:s=s'
  ·subst hs;simp [h]
  ·simp [hs,h]
 | ye s' b v =>
  simp only[CB.w3,AH.put];by_cases hs:s=s'
  ·subst hs;simp [h]
  ·simp [hs,h]
 | bu v o2=>rfl
 | sv s' x v =>
  simp only[CB.w3,AH.put];by_cases hs:s=s'
  ·simp [hs]
  ·simp [hs,h]
 | n6 s' x =>
  simp only[CB.w3,AH.put];by_cases hs:s=s'
  ·simp [hs]
  ·simp [hs,h]
theorem oM {X Y:Nat->Bool} {s:Nat} : ∀ (l:List DZ) (k:Nat) (x y:D),x.2 s=y.2 s->(∀ i r,l[i]? = some r->X (k+i)=Y (k+i) \/ ∀ o,r.own o s=o s)->(DQ X l k x).2 s=(DQ Y l k y).2 s
 | [],k,x,y,h,_=>h
 | r::rs,k,x,y,h,tj=>by
  simp only[DQ];refine oM rs (k+1) _ _ ?_ λ i r' hr=>by
   have:=tj (i+1) r' (by simpa using hr)
   rw[show k+1+i=k+(i+1) by omega];exact this
  rcases tj 0 r rfl with hx|hx
  ·simp only[Nat.add_zero]at hx
   rw[hx];cases Y k
   ·simpa using h
   ·simp only[if_true,DZ.act,DZ.own]
    cases r.g
    ·simpa using h
    ·simpa using Afy r.E s _ _ h
  ·have e1 : ∀ z:D,(r.act z).2 s=z.2 s:=λ z=>hx z.2
   cases X k<;>cases Y k<;>simp [e1,h]
theorem cV {X:Nat->Bool} (q:DZ) : ∀ (l:List DZ) (k:Nat) (x:D),(∀ i r,l[i]? = some r->X (k+i)=true -> ∀ z,r.act (q.act z)=q.act (r.act z))->DQ X l k (q.act x)=q.act (DQ X l k x)
 | [],k,x,_=>rfl
 | r::rs,k,x,h=>by
  simp only[DQ];have dh : ∀ i r',rs[i]? = some r'->X (k+1+i)=true -> ∀ z,r'.act (q.act z)=q.act (r'.act z):=λ i r' hr hX=>h (i+1) r' (by simpa using hr) (by rw[show k+(i+1)=k+1+i by omega];exact hX)
  cases hk:X k
  ·simp only[Bool.false_eq_true,if_false]
   exact cV q rs (k+1) x dh
  ·simp only[if_true]
   rw[h 0 r rfl (by simpa using hk)];exact cV q rs (k+1) _ dh
theorem YN {X Y:Nat->Bool} : ∀ (l:List DZ) (k:Nat) (x:D),(∀ i,i<l.length->X (k+i)=Y (k+i))->DQ X l k x=DQ Y l k x
 | [],_,_,_=>rfl
 | r::rs,k,x,h=>by
  simp only[DQ];rw[show X k=Y k by simpa using h 0 (by simp)];exact YN rs (k+1) _ λ i hi=>by
   have:=h (i+1) (by simpa using hi)
   rw[show k+1+i=k+(i+1) by omega];exact this
theorem oL {X X':Nat->Bool} {l:List DZ} {i:Nat} {q:DZ} (hq:l[i]? = some q) (lk:X i=false) (vg : ∀ j,X' j=(decide (j=i)||X j)) (x:D) (Ee : ∀ j r,l[j]? = some r->i<j->X j=true -> ∀ z,r.act (q.act z)=q.act (r.act z)) :
  DQ X' l 0 x=q.act (DQ X l 0 x):=by
 have u7:i<l.length:=(zS hq).1;have hli:l=l.take i++(q::l.drop (i+1)):=by
  have:l.drop i=q::l.drop (i+1):=by
   rw[List.drop_eq_getElem_cons u7];congr 1;have:=(zS hq).2
   exact this
  rw[<-this,List.take_append_drop]
 have aw:(l.take i).length=i:=by simp;omega
 rw[hli,cU,cU,aw,Nat.zero_add];simp only[DQ,lk,Bool.false_eq_true,if_false];rw[show X' i=true by rw[vg];simp];simp only[if_true];rw[YN (X:=X') (Y:=X) (l.take i) 0 x (λ j hj=>by rw[vg];simp;omega)];rw[YN (X:=X') (Y:=X) (l.drop (i+1)) (i+1) _ (λ j hj=>by rw[vg];simp;omega)];refine cV q _ _ _ λ j r hr Hd => ?_
 rw[List.getElem?_drop]at hr;exact Ee (i+1+j) r hr (by omega) Hd
end
end Go.c5

namespace Go.c5
open Go.RowKit
section
variable {C:Cl} {b9:List Nat} {ρ:AP->AV}
theorem Uk {op:DY} (o o':AH) (ht:GD op=false) (hr:WB op=true->o.m4 b9=o'.m4 b9) (j6 : ∀ s,EH op=some s->o s=o' s):c9 C b9 ρ o op=c9 C b9 ρ o' op:=by
 cases op with
 | na s n x v =>
  have h1:=j6 s rfl;have h2 : ∀ t i j vs,(o.kz s t i j vs).map (λ q=>CB.n6 s (q s))=(o'.kz s t i j vs).map (λ q=>CB.n6 s (q s)):=λ t i j vs=>by
   have hg:o.get s t=o'.get s t:=by unfold AH.get;rw[h1]
   unfold AH.kz;rw[hg];cases o'.get s t with
   | none=>rfl
   | some b =>
    simp only;cases b.es[i]? with
    | none=>rfl
    | some cs =>
     simp only;split
     ·simp only[Option.map_some,AH.j5,h1]
     ·rfl
  simp only[c9,h2]
 | dj s a7 bytes x y =>
  have h1:=j6 s rfl;have hg : ∀ t,o.get s t=o'.get s t:=λ t=>by unfold AH.get;rw[h1]
  simp only[c9,hg,AH.g9,h1]
 | ld agg n x=>have:=hr rfl;simp only[c9,this]
 | call f xs=>have:=hr rfl;simp only[c9,this]
 | o9 s f xs=>have:=hr rfl;simp only[c9,this]
 | bg s f xs=>have h1:=j6 s rfl;simp only[c9,h1]
 | st=>simp [GD]at ht
 | app=>simp [GD]at ht
 | oa=>simp [GD]at ht
 | e9=>simp [GD]at ht
 | m9=>simp [GD]at ht
 | _=>rfl
theorem mO {op:DY} {o:AH} {E:CB} (h:c9 C b9 ρ o op=some E) {s:Nat} (hs:EH op=some s):(∃ b v,E = .new s b v\/E = .ye s b v) \/ ∃ x v,E = .n6 s x\/E = .sv s x v:=by
 cases op with
 | dj s' a7 bytes x y =>
  simp only[EH,Option.some.injEq]at hs;subst hs;simp only[c9]at h;split at h
  ·split at h
   ·split at h
    ·simp only[Option.some.injEq]at h;exact .inr ⟨_,_,.inr h.symm⟩
    ·cases h
   ·cases h
  ·cases h
 | na s' n x v =>
  simp only[EH,Option.some.injEq]at hs;subst hs;simp only[c9]at h;split at h
  ·split at h
   ·simp only[Option.map_eq_some_iff]at h
    obtain ⟨q,_,rfl⟩:=h;exact .inr ⟨_,.any,.inl rfl⟩
   ·cases h
  ·cases h
 | o9 s' f xs =>
  simp only[EH,Option.some.injEq]at hs;subst hs;simp only[c9]at h;split at h
  ·simp only[Option.map_eq_some_iff]at h
   obtain ⟨r,_,rfl⟩:=h;exact .inl ⟨_,_,.inl rfl⟩
  ·cases h
 | nb s' a7 bytes x y =>
  simp only[EH,Option.some.injEq]at hs;subst hs;simp only[c9]at h;split at h
  ·split at h
   ·simp only[Option.some.injEq]at h;exact .inl ⟨_,_,.inl h.symm⟩
   ·cases h
  ·cases h
 | bg s' f xs =>
  simp only[EH,Option.some.injEq]at hs;subst hs;simp only[c9,Option.map_eq_some_iff]at h;obtain ⟨p,_,rfl⟩:=h;exact .inr ⟨_,_,.inr rfl⟩
 | nw s' a7 bytes x y =>
  simp only[EH,Option.some.injEq]at hs;subst hs;simp only[c9]at h;split at h
  ·split at h
   ·simp only[Option.some.injEq]at h;exact .inl ⟨_,_,.inl h.symm⟩
   ·cases h
  ·cases h
 | s9 s' z =>
  simp only[EH,Option.some.injEq]at hs;subst hs;simp only[c9,Option.some.injEq]at h;exact .inl ⟨_,_,.inr h.symm⟩
 | box s' x =>
  simp only[EH,Option.some.injEq]at hs;subst hs;simp only[c9]at h;split at h
  ·simp only[Option.some.injEq]at h;exact .inl ⟨_,_,.inl h.symm⟩
  ·cases h
 | alloc s' z =>
  simp only[EH,Option.some.injEq]at hs;subst hs;simp only[c9,Option.some.injEq]at h;exact .inl ⟨_,_,.inl h.symm⟩
 | c7 s' a7 ps =>
  simp only[EH,Option.some.injEq]at hs;subst hs;simp only[c9]at h;split at h
  ·split at h
   ·simp only[Option.some.injEq]at h;exact .inl ⟨_,_,.inl h.symm⟩
   ·cases h
  ·cases h
 | mk s' a7 bytes z l c =>
  simp only[EH,Option.some.injEq]at hs;subst hs;simp only[c9]at h;split at h
  ·split at h
   ·simp only[Option.some.injEq]at h;exact .inl ⟨_,_,.inl h.symm⟩
   ·cases h
  ·cases h
 | _=>simp [EH]at hs
theorem dS {α:Type} {x:Option α} {f:α->AV} {E:CB} (h:x.map (λ y=>CB.val (f y))=some E) : ∃ v,E = .val v:=by
 cases x with
 | none=>cases h
 | some y=>simp only[Option.map_some,Option.some.injEq]at h;exact ⟨_,h.symm⟩
theorem mP {op:DY} {o:AH} {E:CB} (h:c9 C b9 ρ o op=some E) (ht:GD op=false) (hs:EH op=none) : ∃ v,E = .val v:=by
 cases op<;>first|(simp [GD]at ht;done)|(simp [EH]at hs;done)|skip
 all_goals simp only[c9]at h
 all_goals
  first
   | (simp only[Option.some.injEq]at h;exact ⟨_,h.symm⟩)
   | exact dS (f:=id) h
   | skip
 all_goals (repeat' split at h)
 all_goals
  first
   | (cases h;done)
   | (simp only[Option.some.injEq]at h;exact ⟨_,h.symm⟩)
   | exact dS (f:=id) h
   | exact dS (f:=AV.agg) h
   | (simp only[Option.map_eq_some_iff]at h;obtain ⟨cs,_,rfl⟩:=h;exact ⟨_,rfl⟩)
theorem RZ {x:AI} {r:DZ} {s s':St} (h:SL C x r s s') (ht:GD x.op=false) (hs:EH x.op=none) (o:AH):r.own o=o:=by
 unfold DZ.own;cases hg:r.g with
 | false=>rfl
 | true =>
  obtain ⟨v,hv⟩:=mP (h.E hg) ht hs;simp [hv,CB.w3]
theorem fO {x:AI} {r:DZ} {s s':St} (h:SL C x r s s') {q:Nat} (hs:EH x.op=some q):(∀ o,r.own o=o) \/ ∃ F:CD->CD,∀ o:AH,r.own o=o.put q (F (o q)):=by
 unfold DZ.own;cases hg:r.g with
 | false=>exact .inl λ_=>rfl
 | true =>
  rcases mO (h.E hg) hs with ⟨b,v,hv|hv⟩|⟨x,v,hv|hv⟩
  ·exact .inr ⟨λ q=>q.new b,λ o=>by simp [hv,CB.w3]⟩
  ·exact .inr ⟨λ q=>q.new b,λ o=>by simp [hv,CB.w3]⟩
  ·exact .inr ⟨λ_=>x,λ o=>by simp [hv,CB.w3]⟩
  ·exact .inr ⟨λ_=>x,λ o=>by simp [hv,CB.w3]⟩
theorem sD {x:AI} {r:DZ} {s s':St} (h:SL C x r s s') {q:Nat} (hs:EH x.op=some q) {p:Nat} (hp:p≠q) (o:AH):r.own o p=o p:=by
 rcases fO h hs with h1|⟨b,h1⟩
 ·rw[h1]
 ·rw[h1];simp [AH.put,hp]
theorem rI (b:Array Nat) (i j:Nat):H5 b i j=H5 b j i:=by unfold H5;rw[Nat.max_comm,Nat.min_comm]
theorem RJ {ops:Array Oper} {l:List AI} (h:RI ops l=true) {i j:Nat} {x y:AI} (hx:l[i]? = some x) (hy:l[j]? = some y) (k9:i≠j) :
  (H5 (Region.before ops) i j=true\/((∀ t,y.dst=some t->t ∉ TQ x)/\(GD x.op=false\/J3 y.op=false)/\(WB x.op=true -> ∀ s,EH y.op=some s->s∈x.b9))) /\
  (H5 (Region.before ops) i j=true \/ ∀ s s',EH x.op=some s->EH y.op=some s'->s≠s'):=by
 simp only[RI,Bool.and_eq_true]at h;have h1:=h.1.1;rw[List.all_eq_true]at h1;have hxm:(x,i)∈l.zipIdx:=List.mem_zipIdx_iff_getElem?.2 hx;have hym:(y,j)∈l.zipIdx:=List.mem_zipIdx_iff_getElem?.2 hy;have h2:=h1 (x,i) hxm;simp only at h2;rw[List.all_eq_true]at h2;have h3:=h2 (y,j) hym;simp only[Bool.and_eq_true,Bool.or_eq_true,beq_iff_eq,k9,false_or]at h3;obtain ⟨h4,h5⟩:=h3;refine ⟨?_,h5.imp id λ h5 s s' hs qy => ?_⟩
 ·unfold rM at h4
  simp only[Bool.or_eq_true,beq_iff_eq,k9,false_or]at h4;refine h4.imp id λ h6 => ?_
  simp only[Bool.and_eq_true,Bool.or_eq_true,Bool.not_eq_true']at h6;obtain ⟨⟨h7,h8⟩,h9⟩:=h6;refine ⟨λ t ht => ?_,h8,λ hr s hs => ?_⟩
  ·rw[ht]at h7
   simpa using h7
  ·rw[hr,hs]at h9
   simpa using h9
 ·rw[hs,qy]at h5
  simpa using h5
structure W2 (C:Cl) (ops:Array Oper) (l:List AI) (σ:Nat->St) (rs:List DZ):Prop where
 ok:RI ops l=true
 len:rs.length=l.length
 fits : ∀ (k:Nat) (x:AI) (r:DZ),l[k]? = some x->rs[k]? = some r->SL C x r (σ k) (σ (k+1))
variable {ops:Array Oper} {l:List AI} {σ:Nat->St} {rs:List DZ}
theorem cW {X:Nat->Bool} : ∀ (l:List DZ) (k:Nat) (x:D),(∀ i,i<l.length->X (k+i)=false)->DQ X l k x=x
 | [],_,_,_=>rfl
 | r::q,k,x,h=>by
  simp only[DQ];rw[show X k=false by simpa using h 0 (by simp)];exact cW q (k+1) _ λ i hi=>by
   have:=h (i+1) (by simpa using hi)
   rw[show k+1+i=k+(i+1) by omega];exact this
def d0 (σ:Nat->St):D:=(g6 (σ 0).tm,(σ 0).own)
theorem bY (h:W2 C ops l σ rs) : ∀ k,k<=l.length->DQ (λ j=>decide (j<k)) rs 0 (d0 σ)=(g6 (σ k).tm,(σ k).own)
 | 0,_=>cW rs 0 _ λ i _=>by simp
 | k+1,hk=>by
  have nj:k<l.length:=by omega
  have hkr:k<rs.length:=by rw[h.len];exact nj
  have hr:rs[k]? = some rs[k]:=zE hkr;have hf:=h.fits k l[k] rs[k] (zE nj) hr;rw[oL (X:=λ j=>decide (j<k)) (X':=λ j=>decide (j<k+1)) hr (by simp) (λ j=>by
   by_cases h1:j=k
   ·simp [h1]
   ·simp [h1];omega) _ (λ j r' _ k7 hX=>by simp at hX;omega),bY h k (by omega)]
  exact hf.act.symm
section
variable {X:Nat->Bool} {i:Nat} {x:AI} {r:DZ}
theorem rK (hX:SK ops X) (lk:X i=false) (dp : ∀ o,ops[i]? = some o -> ∀ e∈o.after,Region.binds .any e=true->X e.on=true) {j:Nat} (k9:i≠j) (ho:H5 (Region.before ops) i j=true):X j=decide (j<i):=by
 rcases Nat.lt_or_gt_of_ne k9 with k7|qo
 ·have:X j=false:=by
   cases hj:X j with
   | false=>rfl
   | true=>have:=rJ hX hj k7 ho;rw[lk]at this;cases this
  rw[this];simp;omega
 ·rw[Aft hX dp qo ho];simp;omega
theorem Vj (h:W2 C ops l σ rs) (hx:l[i]? = some x) (hr:rs[i]? = some r) (hX:SK ops X) (lk:X i=false) (dp : ∀ o,ops[i]? = some o -> ∀ e∈o.after,Region.binds .any e=true->X e.on=true) :
  KR (DQ X rs 0 (d0 σ)).1 x.guard=some r.g/\(r.g=true->c9 C x.b9 (EI (DQ X rs 0 (d0 σ)).1) (DQ X rs 0 (d0 σ)).2 x.op=some r.E) /\
  (if r.g then r.E.valOf (DQ X rs 0 (d0 σ)).2 else .g7 [])=r.v /\
  ∀ X':Nat->Bool,(∀ j,X' j=(decide (j=i)||X j))->DQ X' rs 0 (d0 σ)=r.act (DQ X rs 0 (d0 σ)):=by
 have u7:i<l.length:=(zS hx).1;have hf:=h.fits i x r hx hr;have zm:=bY h i (by omega);generalize hT:DQ X rs 0 (d0 σ)=TX;have dz : ∀ (j:Nat) (r':DZ),rs[j]? = some r' -> ∃ y,l[j]? = some y/\SL C y r' (σ j) (σ (j+1)):=λ j r' hj=>by
  have aj:j<l.length:=by rw[<-h.len];exact (zS hj).1
  exact ⟨l[j],zE aj,h.fits j _ _ (zE aj) hj⟩
 have zk : ∀ t∈TQ x,TX.1 t=g6 (σ i).tm t:=λ t ht=>by
  have:=oN (X:=X) (Y:=λ j=>decide (j<i)) (t:=t) rs 0 (d0 σ) (d0 σ) rfl (λ j r' hj hd=>by
   simp only[Nat.zero_add];by_cases k9:i=j
   ·subst k9;simp [lk]
   ·obtain ⟨y,hy,gd⟩:=dz j r' hj
    rcases (RJ h.ok hx hy k9).1 with ho|⟨h1,_⟩
    ·exact rK hX lk dp k9 ho
    ·exact absurd ht (h1 t (by rw[<-gd.d];exact hd)))
  rw[hT,zm]at this;exact this
 have Ge : ∀ t∈FR x.op,TX.1 t=g6 (σ i).tm t:=λ t ht=>zk t (by simp [TQ,ht])
 have ff : ∀ s,(∀ (j:Nat) (y:AI) (r':DZ),i≠j->l[j]? = some y->rs[j]? = some r'->H5 (Region.before ops) i j=true \/ ∀ o,r'.own o s=o s)->TX.2 s=(σ i).own s:=λ s hs=>by
  have:=oM (X:=X) (Y:=λ j=>decide (j<i)) (s:=s) rs 0 (d0 σ) (d0 σ) rfl (λ j r' hj=>by
   simp only[Nat.zero_add];by_cases k9:i=j
   ·subst k9;left;simp [lk]
   ·obtain ⟨y,hy,gd⟩:=dz j r' hj
    rcases hs j y r' k9 hy hj with ho|ho
    ·exact .inl (rK hX lk dp k9 ho)
    ·exact .inr ho)
  rw[hT,zm]at this;exact this
 have mf : ∀ (j:Nat) (y:AI) (r':DZ),l[j]? = some y->rs[j]? = some r'->J3 y.op=false -> ∀ o,r'.own o=o:=λ j y r' hy hj hm o=>by
  simp only[J3,Bool.or_eq_false_iff]at hm;exact RZ (h.fits j y r' hy hj) hm.1.1 (by simpa using hm.2) o
 have Fu : ∀ (j:Nat) (y:AI),i≠j->l[j]? = some y->GD y.op=true->J3 x.op=true->H5 (Region.before ops) i j=true:=λ j y k9 hy ht js=>by
  rcases (RJ h.ok hy hx (Ne.symm k9)).1 with ho|⟨_,h2,_⟩
  ·rw[rI];exact ho
  ·rw[ht,js]at h2;simp at h2
 have hg:KR TX.1 x.guard=some r.g:=by
  rw[<-hf.g];cases Cm:x.guard with
  | none=>rfl
  | some gw =>
   obtain ⟨g,w⟩:=gw;simp only[KR];rw[zk g (by simp [TQ,Cm])]
 have zn:GD x.op=true->TX.2=(σ i).own:=λ ht=>by
  funext s
  refine ff s λ j y r' k9 hy hj => ?_
  cases hm:J3 y.op with
  | false=>exact .inr λ o=>by rw[mf j y r' hy hj hm o]
  | true =>
   rcases (RJ h.ok hx hy k9).1 with ho|⟨_,h2,_⟩
   ·exact .inl ho
   ·rw[ht,hm]at h2;simp at h2
 have Fs:WB x.op=true->TX.2.m4 x.b9=(σ i).own.m4 x.b9:=λ lv=>by
  refine Zi λ s hs=>ff s λ j y r' k9 hy hj => ?_
  have js:J3 x.op=true:=by simp [J3,lv]
  cases ht:GD y.op with
  | true=>exact .inl (Fu j y k9 hy ht js)
  | false =>
   cases jt:EH y.op with
   | none=>exact .inr λ o=>by rw[RZ (h.fits j y r' hy hj) ht jt o]
   | some q =>
    rcases (RJ h.ok hx hy k9).1 with ho|⟨_,_,h3⟩
    ·exact .inl ho
    ·exact .inr λ o=>sD (h.fits j y r' hy hj) jt (p:=s) (λ e=>hs (by rw[e];exact h3 lv q jt)) o
 have zh : ∀ s,EH x.op=some s->TX.2 s=(σ i).own s:=λ s uq=>by
  have js:J3 x.op=true:=by simp [J3,uq]
  exact ff s λ j y r' k9 hy hj=>by
   cases ht:GD y.op with
   | true=>exact .inl (Fu j y k9 hy ht js)
   | false =>
    cases jt:EH y.op with
    | none=>exact .inr λ o=>by rw[RZ (h.fits j y r' hy hj) ht jt o]
    | some q =>
     rcases (RJ h.ok hx hy k9).2 with ho|Bo
     ·exact .inl ho
     ·exact .inr λ o=>sD (h.fits j y r' hy hj) jt (Bo s q uq jt) o
 have Kk:r.g=true->c9 C x.b9 (EI TX.1) TX.2 x.op=some r.E:=λ ct=>by
  rw[Vr Ge,<-hf.E ct];cases ht:GD x.op with
  | true=>rw[zn ht]
  | false=>exact Uk _ _ ht Fs zh
 have hval:(if r.g then r.E.valOf TX.2 else .g7 [])=r.v:=by
  rw[hf.v];cases Pj:r.g with
  | false=>rfl
  | true =>
   simp only[if_true];cases uq:EH x.op with
   | none =>
    cases ht:GD x.op with
    | true=>rw[zn ht]
    | false =>
     obtain ⟨v,hv⟩:=mP (hf.E Pj) ht uq;rw[hv];rfl
   | some s =>
    have Bo:=zh s uq;rcases mO (hf.E Pj) uq with ⟨b,v,hv|hv⟩|⟨x,v,hv|hv⟩<;>rw[hv]<;>simp only[CB.valOf,AH.g9,Bo]
 refine ⟨hg,Kk,hval,λ X' vg => ?_⟩;rw[<-hT];refine oL hr lk vg _ λ j r' hj k7 Hd z => ?_
 obtain ⟨y,hy,gd⟩:=dz j r' hj;have k9:i≠j:=by omega
 have Cp : ¬ H5 (Region.before ops) i j=true:=λ ho=>by
  have:=rJ hX Hd k7 ho
  rw[lk]at this;cases this
 obtain ⟨Lo,Cq⟩:=RJ h.ok hx hy k9;obtain ⟨xj,Ct⟩:=RJ h.ok hy hx (Ne.symm k9);have hp:=Lo.resolve_left Cp;have hq:=xj.resolve_left (by rw[rI];exact Cp);unfold DZ.act;refine Prod.ext ?_ ?_
 ·funext t
  simp only[IV];by_cases h1:r'.d=some t<;>by_cases h2:r.d=some t
  ·exact absurd (by rw[hf.d]at h2;simp [TQ,h2]) (hp.1 t (by rw[<-gd.d];exact h1))
  ·simp [h1,h2]
  ·simp [h1,h2]
  ·simp [h1,h2]
 ·show r'.own (r.own z.2)=r.own (r'.own z.2)
  cases js:J3 x.op with
  | false=>rw[mf i x r hx hr js,mf i x r hx hr js]
  | true =>
   cases qe:J3 y.op with
   | false=>rw[mf j y r' hy hj qe,mf j y r' hy hj qe]
   | true =>
    have Qk:GD x.op=false:=by
     rcases hp.2.1 with h1|h1
     ·exact h1
     ·rw[qe]at h1;cases h1
    have Ql:GD y.op=false:=by
     rcases hq.2.1 with h1|h1
     ·exact h1
     ·rw[js]at h1;cases h1
    cases uq:EH x.op with
    | none=>rw[RZ hf Qk uq,RZ hf Qk uq]
    | some s =>
     cases jt:EH y.op with
     | none=>rw[RZ gd Ql jt,RZ gd Ql jt]
     | some s' =>
      have Bo:=(Cq.resolve_left Cp) s s' uq jt;rcases fO hf uq with h1|⟨b,h1⟩
      ·rw[h1,h1]
      ·rcases fO gd jt with h2|⟨b',h2⟩
       ·rw[h2,h2]
       ·rw[h1,h2,h2,h1]
        funext q
        simp only[AH.put];by_cases Ls:q=s<;>by_cases Bk:q=s'
        ·exact absurd (Ls.symm.trans Bk) Bo
        ·simp [Ls,Bo]
        ·simp [Bk,Ne.symm Bo]
        ·simp [Ls,Bk]
end
end
end Go.c5

namespace Go.c5
open Go.RowKit
section
variable {ops:Array Oper} {md:Region.Mode}
theorem zW {e:Edge} (h:Region.binds .any e=true) (md:Region.Mode):Region.binds md e=true:=by
 unfold Region.binds at *;split at h<;>simp_all
theorem pY (ops:Array Oper) (md:Region.Mode) : ∀ (fuel t:Nat) (c4:Array Bool),c4.size=ops.size -> ∀ (k i:Nat),(Region.linearise.go md ops fuel t c4 [])[k]? = some i ->
  ∃ o,ops[i]? = some o /\ ∀ e∈o.after,Region.binds md e=true->c4.getD e.on false=true\/e.on∈(Region.linearise.go md ops fuel t c4 []).take k
 | 0,t,c4,hs,k,i,h=>by simp [Region.linearise.go]at h
 | fuel+1,t,c4,hs,k,i,h=>by
  have pz:Region.linearise.go md ops (fuel+1) t c4 []=match (Region.ready md ops c4)[t%(Region.ready md ops c4).length]? with
   | some i=>i::Region.linearise.go md ops fuel (t/(Region.ready md ops c4).length) (c4.setIfInBounds i true) []
   | none=>[]:=by
   simp only[Region.linearise.go];change (match (Region.ready md ops c4)[t%(Region.ready md ops c4).length]? with
    | some i=>Region.linearise.go md ops fuel (t/(Region.ready md ops c4).length) (c4.setIfInBounds i true) [i]
    | none=>[].reverse)=_
   cases (Region.ready md ops c4)[t%(Region.ready md ops c4).length]? with
   | none=>rfl
   | some i=>simp only[];rw[linearise_go_acc];rfl
  rw[pz]at h ⊢;cases hr:(Region.ready md ops c4)[t%(Region.ready md ops c4).length]? with
  | none=>rw[hr]at h;simp at h
  | some q =>
   rw[hr]at h;simp only at h ⊢;obtain ⟨_,oq,hoq,hq⟩:=mem_ready.1 (zM hr);cases k with
   | zero =>
    simp at h;subst h;exact ⟨oq,hoq,λ e he hb => .inl (hq e he hb)⟩
   | succ k =>
    simp at h;obtain ⟨o,ho,hh⟩:=pY ops md fuel _ _ (by simpa using hs) k i h;refine ⟨o,ho,λ e he hb => ?_⟩;rcases hh e he hb with h1|h1
    ·by_cases heq:e.on=q
     ·right;simp [heq]
     ·left
      rw[getD_set_ne false (Ne.symm heq)]at h1;exact h1
    ·right;simp [h1]
theorem cR {p:Nat->Bool} : ∀ (l:List Nat),(∃ i∈l,p i=false) -> ∃ k i,l[k]? = some i/\p i=false /\ ∀ j∈l.take k,p j=true
 | [],⟨i,hi,_⟩=>by simp at hi
 | x::r,⟨i,hi,hp⟩=>by
  cases hx:p x with
  | false=>exact ⟨0,x,rfl,hx,by simp⟩
  | true =>
   have : ∃ i∈r,p i=false:=by
    rcases List.mem_cons.1 hi with h|h
    ·subst h;rw[hx]at hp;cases hp
    ·exact ⟨i,h,hp⟩
   obtain ⟨k,j,h1,h2,h3⟩:=cR r this;refine ⟨k+1,j,by simpa using h1,h2,λ q hq => ?_⟩;simp only[List.take_succ_cons,List.mem_cons]at hq;rcases hq with h|h
   ·subst h;exact hx
   ·exact h3 q h
theorem progress {l:List AI} (hd:RI ops l=true) (Ff:md = .gc->Region.departs ops=true) {c4:Array Bool} (hs:c4.size=ops.size) (hr:Region.ready md ops c4=[]) : ∀ j,j<ops.size->c4.getD j false=true:=by
 intro j hj;cases aj:c4.getD j false with
 | true=>rfl
 | false =>
  exfalso;simp only[RI,Bool.and_eq_true]at hd;obtain ⟨⟨_,iq⟩,ua⟩:=hd;have my : ∀ i,i<ops.size->c4.getD i false=false -> ¬ ∀ o,ops[i]? = some o -> ∀ e∈o.after,Region.binds md e=true->c4.getD e.on false=true:=λ i hi hl jn=>by
   have:i∈Region.ready md ops c4:=mem_ready.2 ⟨by
    have:i<c4.size:=by omega
    simp [Array.getD,this]at hl ⊢;exact hl,ops[i],Array.getElem?_eq_getElem hi,λ e he hb=>jn ops[i] (Array.getElem?_eq_getElem hi) e he hb⟩
   rw[hr]at this;simp at this
  by_cases Ck:md = .gc
  ·subst Ck
   rw[Ff rfl]at ua;simp only[Bool.not_true,Bool.false_or,List.all_eq_true,List.mem_range,List.contains_iff_mem]at ua;obtain ⟨k,i,h1,h2,h3⟩:=cR (p:=λ q=>c4.getD q false) (Region.linearise .gc ops 0) ⟨j,ua j hj,aj⟩;obtain ⟨o,ho,hh⟩:=pY ops .gc ops.size 0 (Array.replicate ops.size false) (by simp) k i h1;have hi:i<ops.size:=(Array.getElem?_eq_some_iff.1 ho).1;refine my i hi h2 λ o' xi e he hb => ?_
   rw[ho]at xi;obtain rfl:o=o':=by simpa using xi
   rcases hh e he hb with h4|h4
   ·simp [Array.getD]at h4
   ·exact h3 e.on h4
  ·obtain ⟨k,i,h1,h2,h3⟩:=cR (p:=λ q=>c4.getD q false) (List.range ops.size) ⟨j,by simpa using hj,aj⟩
   have mg:i=k:=by
    have nj:k<ops.size:=by have:=(zS h1).1;simpa using this
    rw[List.getElem?_range nj]at h1;simpa using h1.symm
   subst mg;have hi:i<ops.size:=by have:=(zS h1).1;simpa using this
   refine my i hi h2 λ o ho e he hb => ?_
   rw[List.all_eq_true]at iq;have gn:(o,i)∈ops.toList.zipIdx:=List.mem_zipIdx_iff_getElem?.2 (by simpa using ho);have h4:=iq (o,i) gn;simp only[Array.all_eq_true_iff_forall_mem,Bool.or_eq_true,decide_eq_true_eq]at h4;rcases h4 e he with h5|h5
   ·exact h3 e.on (by rw[List.take_range];simp;omega)
   ·exfalso
    unfold Region.binds at hb;split at h5
    ·rename_i row uj
     rw[uj]at hb;simp at hb;exact Ck hb
    ·cases h5
variable {B:Nat} {S:Nat->Prop} {w0:World} {m0:M} {N:Nat}
variable {P:Program} {num:Nat->Nat} {C:Cl} {Q:Exit->Act->World->Prop}
def SA (c4:Array Bool) (n:Nat):Nat:=(List.range n).countP (λ j => !c4.getD j false)
theorem kX {α:Type} {p q:α->Bool} : ∀ {l:List α} {x:α},(∀ y∈l,q y=true->p y=true)->x∈l->p x=true->q x=false->l.countP q<l.countP p
 | [],x,_,hx,_,_=>by simp at hx
 | y::r,x,h,hx,hp,hq=>by
  have hle:r.countP q<=r.countP p:=List.countP_mono_left λ z hz hqz=>h z (by simp [hz]) hqz
  rw[List.countP_cons,List.countP_cons];rcases List.mem_cons.1 hx with rfl|hx
  ·simp only[hp,hq,if_true,Bool.false_eq_true,if_false]
   omega
  ·have:=kX (l:=r) (λ z hz=>h z (by simp [hz])) hx hp hq
   by_cases Lt:q y=true
   ·simp only[Lt,h y (by simp) Lt,if_true];omega
   ·simp only[Lt,Bool.false_eq_true,if_false]
    split<;>omega
theorem Ahb (hC:GT P num C) {l:List AI} (g8:PP P num N ops ops.toList l=true) {σ:Nat->St} {rs:List DZ} (h:W2 C ops l σ rs) (Ff:md = .gc->Region.departs ops=true)
  (hQ : ∀ m' a',m'.own=(σ l.length).own->FF B S w0 m0 N (g6 (σ l.length).tm) m' a'->Q .normal a' m'.w) :
  ∀ (fuel:Nat) (c4:Array Bool) (a:Act) (m:M),c4.size=ops.size->SA c4 ops.size<=fuel->SK ops (λ j=>c4.getD j false)->m.own=(DQ (λ j=>c4.getD j false) rs 0 (d0 σ)).2->FF B S w0 m0 N (DQ (λ j=>c4.getD j false) rs 0 (d0 σ)).1 m a->wpAny P md ops Q fuel c4 a m.w:=by
 have hlen:ops.size=l.length:=by have:=(V2 g8).1;simpa using this
 have final : ∀ (c4:Array Bool) (a:Act) (m:M),(∀ j,j<ops.size->c4.getD j false=true)->m.own=(DQ (λ j=>c4.getD j false) rs 0 (d0 σ)).2->FF B S w0 m0 N (DQ (λ j=>c4.getD j false) rs 0 (d0 σ)).1 m a->Q .normal a m.w:=λ c4 a m jn j9 hf=>by
  have:DQ (λ j=>c4.getD j false) rs 0 (d0 σ)=(g6 (σ l.length).tm,(σ l.length).own):=by
   rw[<-bY h l.length (Nat.le_refl _)];refine YN rs 0 _ λ i hi => ?_
   simp only[Nat.zero_add];rw[jn i (by rw[hlen,<-h.len];exact hi)];simp;rw[<-h.len];exact hi
  rw[this]at j9 hf;exact hQ m a j9 hf
 have Dd : ∀ c4:Array Bool,SA c4 ops.size<=0 -> ∀ j,j<ops.size->c4.getD j false=true:=λ c4 h0 j hj=>by
  have h1:SA c4 ops.size=0:=by omega
  unfold SA at h1;rw[List.countP_eq_zero]at h1;simpa using h1 j (by simpa using hj)
 intro fuel;induction fuel with
 | zero =>
  intro c4 a m q6 hn Kf j9 hf;refine ⟨?_,final c4 a m (Dd c4 hn) j9 hf⟩;cases hr:Region.ready md ops c4 with
  | nil=>rfl
  | cons i r =>
   obtain ⟨h1,o,ho,_⟩:=mem_ready.1 (show i∈Region.ready md ops c4 by rw[hr];simp);have hi:i<ops.size:=(Array.getElem?_eq_some_iff.1 ho).1;have h2:=Dd c4 hn i hi;have u7:i<c4.size:=by omega
   simp [Array.getD,u7]at h1 h2;rw[h1]at h2;cases h2
 | succ fuel ih =>
  intro c4 a m q6 hn Kf j9 hf;refine ⟨λ hr=>final c4 a m (progress h.ok Ff q6 hr) j9 hf,λ i hi => ?_⟩;obtain ⟨h1,o,ho,Bb⟩:=mem_ready.1 hi;have hio:i<ops.size:=(Array.getElem?_eq_some_iff.1 ho).1;have u7:i<c4.size:=by omega
  have qa:c4.getD i false=false:=by
   simp [Array.getD,u7]at h1 ⊢;exact h1
  have vk:i<l.length:=by omega
  have bp:i<rs.length:=by rw[h.len];exact vk
  have hx:l[i]? = some l[i]:=zE vk;have hr:rs[i]? = some rs[i]:=zE bp;have dp : ∀ o',ops[i]? = some o' -> ∀ e∈o'.after,Region.binds .any e=true->c4.getD e.on false=true:=λ o' xi e he hb=>by
   rw[ho]at xi;obtain rfl:o=o':=by simpa using xi
   exact Bb e he (zW hb md)
  obtain ⟨g1,g2,g3,g4⟩:=Vj h hx hr Kf qa dp;have Ll:=(V2 g8).2 i o l[i] (by simpa using ho) hx;have vg : ∀ j,(c4.setIfInBounds i true).getD j false=(decide (j=i)||c4.getD j false):=λ j=>by
   by_cases Kw:j=i
   ·subst Kw;simp [Array.getD,u7]
   ·rw[getD_set_ne false (Ne.symm Kw)];simp [Kw]
  refine vD hC ho Ll hf g1 (λ hg=>by rw[j9];exact g2 hg) λ m' a' ke me => ?_
  have kt:=g4 _ vg;refine ih (c4.setIfInBounds i true) a' m' (by simpa using q6) ?_ ?_ ?_ ?_
  ·have k7:SA (c4.setIfInBounds i true) ops.size<SA c4 ops.size:=by
    refine kX (x:=i) (λ j _ hj => ?_) (by simpa using hio) (by simp [qa]) (by rw[vg];simp);rw[vg]at hj;simp at hj ⊢;exact hj.2
   omega
  ·intro j oj hj Ho e he hb
   change (c4.setIfInBounds i true).getD j false=true at hj;show (c4.setIfInBounds i true).getD e.on false=true;rw[vg]at hj ⊢;simp only[Bool.or_eq_true,decide_eq_true_eq]at hj ⊢;rcases hj with rfl|hj
   ·exact .inr (dp oj Ho e he hb)
   ·exact .inr (Kf j oj hj Ho e he hb)
  ·rw[kt,ke,j9]
   rfl
  ·rw[kt]
   rw[j9,g3]at me;have hd:(l[i]).dst=(rs[i]).d:=(h.fits i _ _ hx hr).d.symm;rw[hd]at me;exact me
theorem Ahc (hC:GT P num C) {id:Nat} {l:List AI} (g8:PP P num N ops ops.toList l=true) (hd:RI ops l=true) {st j7:St} (j6:DB C l st=some j7) {m:M} {a:Act} (j9:m.own=st.own) (hf:FF B S w0 m0 N (g6 st.tm) m a)
  (hQ : ∀ m' a',m'.own=j7.own->FF B S w0 m0 N (g6 j7.tm) m' a'->Q .normal a' m'.w):(Code.region id ops true).wp P Q a m.w:=by
 obtain ⟨σ,rs,h0,h1,hl,h2⟩:=trace j6;have hD:W2 C ops l σ rs:=⟨hd,hl,h2⟩;obtain ⟨iy,vi⟩:=grow hf.mem ((Below.refl m.w.heap.size m.w).drew);have tp:FF B S w0 m0 N (g6 st.tm) ⟨m.ν,m.own,m.w.drew⟩ a:=⟨iy,hf.ext.trans vi,λ i=>vi.cv (hf.tm i),hf.size,hf.defers⟩;have Gr:DQ (λ j=>(Array.replicate ops.size false).getD j false) rs 0 (d0 σ)=d0 σ:=cW rs 0 _ λ i _=>by simp [Array.getD]
 have key : ∀ md:Region.Mode,(md = .gc->Region.departs ops=true) -> ∀ t,wpOps P ops Q (Region.linearise md ops t) a m.w.drew:=λ md Ff t=>by
  refine wpAny_sound ops.size t (Array.replicate ops.size false) a m.w.drew ?_;refine Ahb hC g8 hD Ff (by rw[h1];exact hQ) ops.size _ a ⟨m.ν,m.own,m.w.drew⟩ (by simp) ?_ ?_ ?_ ?_
  ·unfold SA
   exact Nat.le_trans List.countP_le_length (by simp)
  ·intro j o hj
   simp [Array.getD]at hj
  ·rw[Gr];simp [d0,h0,j9]
  ·rw[Gr];simpa [d0,h0] using tp
 refine wp_region_draw λ t => ?_
 change wpOps P ops Q _ a m.w.drew;unfold Region.schedule;split
 ·exact key .any (λ h=>by cases h) t
 ·rename_i Ej
  have Pb:Region.departs ops=true:=by simp at Ej;exact Ej.2
  split
  ·exact key .text (λ_=>Pb) _
  ·exact key .gc (λ_=>Pb) _
end
end Go.c5

namespace Go.c5
open Go.RowKit
section
variable {B:Nat} {S:Nat->Prop} {w0:World} {m0:M} {N:Nat}
variable {P:Program} {num:Nat->Nat} {C:Cl}
theorem AgR (m:Tm) (l:List Nat) (j:Nat):g6 (y7 m l) j=g6 m j\/g6 (y7 m l) j = .any:=by
 induction m with
 | nil=>exact .inl rfl
 | cons x r ih =>
  obtain ⟨i,v⟩:=x;simp only[y7];split
  ·by_cases h:j=i
   ·subst h
    rename_i hc;right
    clear ih;induction r with
    | nil=>rfl
    | cons y q ih =>
     obtain ⟨k,u⟩:=y;simp only[y7];split
     ·exact ih
     ·rename_i hk
      have : ¬ j=k:=λ e=>by subst e;exact hk hc
      simp only[g6,if_neg this];exact ih
   ·rcases ih with h1|h1
    ·left;simp only[g6,if_neg h];exact h1
    ·right;exact h1
  ·by_cases h:j=i
   ·left;simp [g6,h]
   ·simp only[g6,if_neg h]
    exact ih
inductive HU (P:Program) (num:Nat->Nat) (N:Nat):List It->List Item->Prop
 | nil:HU P num N [] []
 | code {c:Code} {a:BI} {k:List It} {t:List Item} (h:ET P num N c a=true) (hk:HU P num N k t):HU P num N (.code a::k) (.code c::t)
 | drop {ts ss:List Nat} {k:List It} {t:List Item} (hk:HU P num N k t):HU P num N (.jx ts ss::k) t
 | e8 {id:Nat} {k:List It} {t:List Item} (hk:HU P num N k t):HU P num N (.e8 id::k) (.inBlock id::t)
 | lp {c:Code} {a:BI} {k:List It} {t:List Item} (h:ET P num N c a=true) (hk:HU P num N k t):HU P num N (.lp a::k) (.inLoop c::t)
 | scope {c:Code} {k:List It} {t:List Item} (hk:HU P num N k t):HU P num N k (.inScope c::t)
theorem uF {b:Frame} {a:Act} {k:List Item} {cs:List Frame} {w:World} {c:Code}:step P (lone (b.at a (.inScope c::k)) cs w) = .next (lone (b.at a k) cs w) :=
 step_lone_go (by simp [stepG,stepG.exec,Frame.at])
theorem AgI {b:Frame} {a:Act} {k:List Item} {cs:List Frame} {w:World} {c:Code}:step P (lone (b.at a (.code (.scope c)::k)) cs w) = .next (lone (b.at a (.code c :: .inScope c::k)) cs w) :=
 step_lone_go (by simp [stepG,stepG.exec,Frame.at])
theorem TH {id:Nat} : ∀ {k:List It} {t:List Item},HU P num N k t -> ∀ {k':List It},DW id k=some k' -> ∃ t',exitTo id t=some t'/\HU P num N k' t'
 | _,_,.nil,k',h=>by simp [DW]at h
 | _,_,.code h0 hk,k',h=>by
  simp only[DW]at h;obtain ⟨t',h1,h2⟩:=TH hk h;exact ⟨t',by simpa [exitTo] using h1,h2⟩
 | _,_,.drop hk,k',h=>by
  simp only[DW]at h;exact TH hk h
 | _,_,.e8 (id:=Hz) hk,k',h=>by
  simp only[DW]at h;split at h
  ·rename_i he
   subst he;simp only[Option.some.injEq]at h;subst h;exact ⟨_,by simp [exitTo],hk⟩
  ·rename_i he
   obtain ⟨t',h1,h2⟩:=TH hk h;exact ⟨t',by simpa [exitTo,he] using h1,h2⟩
 | _,_,.lp h0 hk,k',h=>by
  simp only[DW]at h;obtain ⟨t',h1,h2⟩:=TH hk h;exact ⟨t',by simpa [exitTo] using h1,h2⟩
 | _,_,.scope hk,k',h=>by
  obtain ⟨t',h1,h2⟩:=TH hk h;exact ⟨t',by simpa [exitTo] using h1,h2⟩
def iO (B:Nat) (S:Nat->Prop) (w0:World) (m0:M) (N:Nat) (P:Program) (b:Frame) (cs:List Frame) (Nh:Machine) (j7:St):Prop :=
 ∃ a' m' m6,Steps P Nh (lone { b.at a' m6 with mode := .returning } cs m'.w)/\m'.own=j7.own/\FF B S w0 m0 N (g6 j7.tm) m' a'
theorem Af9 (hC:GT P num C) (b:Frame) (cs:List Frame) : ∀ (n:Nat) (k:List It) (st j7:St),run C n k st=some j7 -> ∀ (t:List Item),HU P num N k t -> ∀ (m:M) (a:Act),m.own=st.own->FF B S w0 m0 N (g6 st.tm) m a ->
  iO B S w0 m0 N P b cs (lone (b.at a t) cs m.w) j7:=by
 intro n;induction n with
 | zero=>intro k st j7 h;simp [run]at h
 | succ n ih =>
  intro k st j7 h t ht;have fin : ∀ (t:List Item),HU P num N [] t -> ∀ (m:M) (a:Act),m.own=st.own->FF B S w0 m0 N (g6 st.tm) m a->st=j7->iO B S w0 m0 N P b cs (lone (b.at a t) cs m.w) j7:=by
   intro t ht;generalize hk:([]:List It)=kk at ht;induction ht with
   | nil =>
    intro m a j9 hf he;subst he;exact ⟨a,m,[],.one step_end,j9,hf⟩
   | scope gx nr =>
    intro m a j9 hf he;obtain ⟨a',m',m6,h1,h2⟩:=nr hk m a j9 hf he;exact ⟨a',m',m6,.head uF h1,h2⟩
   | code=>cases hk
   | drop=>cases hk
   | e8=>cases hk
   | lp=>cases hk
  cases k with
  | nil =>
   intro m a j9 hf;simp only[run,Option.some.injEq]at h;exact fin t ht m a j9 hf h
  | cons it k =>
   generalize ib:it::k=kk at ht;induction ht with
   | nil=>cases ib
   | scope gx nr =>
    intro m a j9 hf;obtain ⟨a',m',m6,h1,h2⟩:=nr ib m a j9 hf;exact ⟨a',m',m6,.head uF h1,h2⟩
   | @e8 id k2 t2 gx nr =>
    intro m a j9 hf;obtain ⟨rfl,rfl⟩:it = .e8 id/\k=k2:=by simpa using ib
    simp only[run]at h;obtain ⟨a',m',m6,h1,h2⟩:=ih k st j7 h t2 gx m a j9 hf;exact ⟨a',m',m6,.head step_inBlock h1,h2⟩
   | @lp c ac k2 t2 g8 gx nr =>
    intro m a j9 hf;obtain ⟨rfl,rfl⟩:it = .lp ac/\k=k2:=by simpa using ib
    simp only[run]at h;obtain ⟨a',m',m6,h1,h2⟩:=ih _ st j7 h (.code c :: .inLoop c::t2) (.code g8 (.lp g8 gx)) m a j9 hf;exact ⟨a',m',m6,.head step_inLoop h1,h2⟩
   | @drop ts ss k2 t2 gx nr =>
    intro m a j9 hf;obtain ⟨rfl,rfl⟩:it = .jx ts ss/\k=k2:=by simpa using ib
    simp only[run]at h;obtain ⟨lu,he⟩:=Vl hf.mem ss;have me:FF B S w0 m0 N (g6 (y7 st.tm ts)) ⟨m.ν,m.own.drop ss,m.w⟩ a:=⟨lu,hf.ext.trans he,λ i=>by
     rcases AgR st.tm ts i with h1|h1
     ·rw[h1];exact he.cv (hf.tm i)
     ·rw[h1];exact .any _,hf.size,hf.defers⟩
    obtain ⟨a',m',m6,h1,h2,h3⟩:=ih k ⟨y7 st.tm ts,st.own.drop ss⟩ j7 h t2 gx ⟨m.ν,m.own.drop ss,m.w⟩ a (by simp [j9]) me;exact ⟨a',m',m6,h1,h2,h3⟩
   | @code c ac k2 t2 g8 gx nr =>
    obtain ⟨rfl,rfl⟩:it = .code ac/\k=k2:=by simpa using ib
    clear nr ib;intro m a j9 hf;cases ac with
    | dr ac ts ss =>
     simp only[ET]at g8;simp only[run]at h;exact ih _ st j7 h _ (.code g8 (.drop gx)) m a j9 hf
    | skip =>
     simp only[run]at h;cases c with
     | skip =>
      obtain ⟨a',m',m6,h1,h2⟩:=ih _ st j7 h _ gx m a j9 hf;exact ⟨a',m',m6,.head step_skip h1,h2⟩
     | label =>
      obtain ⟨a',m',m6,h1,h2⟩:=ih _ st j7 h _ gx m a j9 hf;exact ⟨a',m',m6,.head step_label h1,h2⟩
     | _=>simp [ET]at g8
    | scope ac =>
     simp only[run]at h;cases c with
     | scope c =>
      simp only[ET]at g8;obtain ⟨a',m',m6,h1,h2⟩:=ih _ st j7 h _ (.code g8 (.scope (c:=c) gx)) m a j9 hf;exact ⟨a',m',m6,.head AgI h1,h2⟩
     | _=>simp [ET]at g8
    | seq a1 a2 =>
     simp only[run]at h;cases c with
     | seq c1 c2 =>
      simp only[ET,Bool.and_eq_true]at g8;obtain ⟨a',m',m6,h1,h2⟩:=ih _ st j7 h _ (.code g8.1 (.code g8.2 gx)) m a j9 hf;exact ⟨a',m',m6,.head step_seq h1,h2⟩
     | _=>simp [ET]at g8
    | cond x a1 a2 =>
     simp only[run]at h;cases c with
     | cond xc c1 c2 =>
      simp only[ET,Bool.and_eq_true]at g8;have s8:CV B S m (st.ev x) (a.eval xc):=by rw[nA];exact hf.says xc x g8.1.1
      split at h
      ·rename_i hx
       rw[hx]at s8;obtain ⟨a',m',m6,h1,h2⟩:=ih _ st j7 h _ (.code g8.1.2 gx) m a j9 hf;exact ⟨a',m',m6,.head (step_cond (RG s8)) h1,h2⟩
      ·rename_i hx
       rw[hx]at s8;obtain ⟨a',m',m6,h1,h2⟩:=ih _ st j7 h _ (.code g8.2 gx) m a j9 hf;exact ⟨a',m',m6,.head (step_cond (RG s8)) h1,h2⟩
      ·cases h
     | _=>simp [ET]at g8
    | block id ac =>
     simp only[run]at h;cases c with
     | block Hz c =>
      simp only[ET,Bool.and_eq_true,beq_iff_eq]at g8;obtain ⟨rfl,g8⟩:=g8;obtain ⟨a',m',m6,h1,h2⟩:=ih _ st j7 h _ (.code g8 (.e8 gx)) m a j9 hf;exact ⟨a',m',m6,.head step_block h1,h2⟩
     | _=>simp [ET]at g8
    | loop ac =>
     simp only[run]at h;cases c with
     | loop c =>
      simp only[ET]at g8;obtain ⟨a',m',m6,h1,h2⟩:=ih _ st j7 h _ (.code g8 (.lp g8 gx)) m a j9 hf;exact ⟨a',m',m6,.head step_loop h1,h2⟩
     | _=>simp [ET]at g8
    | exit id =>
     simp only[run]at h;cases c with
     | exit Hz =>
      simp only[ET,beq_iff_eq]at g8;subst g8;split at h
      ·rename_i k' ia
       obtain ⟨t',e1,e2⟩:=TH gx ia;obtain ⟨a',m',m6,h1,h2⟩:=ih _ st j7 h _ e2 m a j9 hf;exact ⟨a',m',m6,.head (step_exit e1) h1,h2⟩
      ·cases h
     | _=>simp [ET]at g8
    | ret =>
     simp only[run,Option.some.injEq]at h;subst h;cases c with
     | ret=>exact ⟨a,m,.code .ret::t2,.one step_ret,j9,hf⟩
     | _=>simp [ET]at g8
    | ops l draw =>
     simp only[run]at h;split at h
     ·rename_i BA Gc
      cases c with
      | region id ops pn =>
       simp only[ET,Bool.and_eq_true,beq_iff_eq]at g8;obtain ⟨⟨rfl,Fj⟩,om⟩:=g8;have hwp:(Code.region id ops pn).wp P (λ e a' w'=>e = .normal /\ ∃ m',m'.w=w'/\m'.own=BA.own/\FF B S w0 m0 N (g6 BA.tm) m' a') a m.w:=by
        cases pn with
        | true=>exact Ahc hC Fj (by simpa using om) Gc j9 hf λ m' a' h1 h2=>⟨rfl,m',rfl,h1,h2⟩
        | false =>
         refine wp_region ?_;rw[List.range_eq_range'];exact vE hC Fj ops.size 0 st BA m a (by omega) (by simpa using Gc) j9 hf λ m' a' h1 h2=>⟨rfl,m',rfl,h1,h2⟩
       obtain ⟨e,a1,w1,⟨rfl,m1,rfl,Fk,tp⟩,Jw⟩:=hwp b t2 cs;obtain ⟨a',m',m6,h1,h2,h3⟩:=ih _ BA j7 h _ gx m1 a1 Fk tp;exact ⟨a',m',m6,Steps.trans Jw h1,h2,h3⟩
      | _=>simp [ET]at g8
     ·cases h
end
end Go.c5

namespace Go.c5
open Go.RowKit
section
variable {P:Program} {num:Nat->Nat} {L:Lib}
def ProgOK (P : Program) (num : Nat → Nat) (L : Lib) : Prop := (∀ f fa, L f = some fa → ∃ fn, P.funcs[num f]? = some fn ∧ okFn P num fn fa = true ∧ (fn.name == "runtime.NumGoroutine") = false) ∧ L.num = num
theorem pD : ∀ (args:List AV) (k i:Nat),g6 (CY k args) i=if k<=i then (match args[i-k]? with|some v=>v|none => .any) else .any
 | [],k,i=>by simp [CY,g6]
 | v::r,k,i=>by
  simp only[CY,g6];by_cases h:i=k
  ·subst h;simp
  ·rw[if_neg h,pD r (k+1) i]
   by_cases h2:k<=i
   ·rw[if_pos h2,if_pos (by omega)]
    have:i-k=(i-(k+1))+1:=by omega
    rw[this];simp
   ·rw[if_neg h2,if_neg (by omega)]
section
variable {B:Nat} {S:Nat->Prop} {w0:World} {m0:M} {N:Nat}
def ZF (tmps:Array Value):ResultVar->Sem Value
 | .tmp t=>pure (tmps.getD t undef)
 | .cell x t=>do loadVar t (<-asAddr (tmps.getD x undef))
theorem zZ {m:M} {x v:AV} {u:Value} (h:IG x=some v) (s8:CV B S m x u):CA B S m v u:=by
 cases s8 with
 | any=>simp [IG]at h
 | g7=>simp [IG]at h
 | ca hc =>
  have:x=v:=by
   cases hc with
   | one hc=>cases hc with
    | rd hr=>cases hr<;>simpa [IG] using h
    | _=>simpa [IG] using h
   | fn=>simpa [IG] using h
   | rj=>simpa [IG] using h
   | agg=>simpa [IG] using h
  subst this;exact hc
theorem fW {m:M} {a:Act} {st:St} (hf:FF B S w0 m0 N (g6 st.tm) m a) (j9:m.own=st.own) : ∀ {rv:List ResultVar} {ra:List IY} {vs:List AV},L0 P rv ra=true->ra.mapM (E5 st)=some vs ->
  ∃ us:List Value,(rv.mapM (ZF a.tmps)).run P m.w = .ok us m.w/\vs.length=us.length /\ ∀ (j:Nat) (c:AV) (v:Value),vs[j]? = some c->us[j]? = some v->CA B S m c v
 | [],[],vs,_,h=>by
  simp at h;subst h;exact ⟨[],by simp,rfl,λ j c v hc=>by simp at hc⟩
 | .tmp t::r,.tmp t'::l,vs,g8,h=>by
  simp only[L0,Bool.and_eq_true,beq_iff_eq]at g8;obtain ⟨rfl,g8⟩:=g8;simp only[List.mapM_cons,Option.bind_eq_bind,Option.pure_def]at h;cases hv:E5 st (.tmp t) with
  | none=>simp [hv]at h
  | some v =>
   cases hr:l.mapM (E5 st) with
   | none=>simp [hv,hr]at h
   | some vr =>
    simp [hv,hr]at h;subst h;obtain ⟨us,h1,h2,h3⟩:=fW hf j9 g8 hr;have s8:=hf.tm t;have lq:CA B S m v (a.tmps.getD t undef):=zZ hv s8;refine ⟨a.tmps.getD t undef::us,?_,by simp [h2],λ j c u hc hu => ?_⟩
    ·simp only[List.mapM_cons,Sem.run_bind,ZF,Sem.run_pure,Result.andThen_ok,h1]
    ·cases j with
     | zero =>
      obtain rfl:v=c:=by simpa using hc
      obtain rfl:a.tmps.getD t undef=u:=Option.some.inj hu;exact lq
     | succ j=>exact h3 j c u (by simpa using hc) (by simpa using hu)
 | .cell x t::r,.cell x' agg n::l,vs,g8,h=>by
  simp only[L0,Bool.and_eq_true,beq_iff_eq]at g8;obtain ⟨⟨⟨rfl,fp⟩,hn⟩,g8⟩:=g8;simp only[List.mapM_cons,Option.bind_eq_bind,Option.pure_def]at h;cases hv:E5 st (.cell x agg n) with
  | none=>simp [hv]at h
  | some v =>
   cases hr:l.mapM (E5 st) with
   | none=>simp [hv,hr]at h
   | some vr =>
    simp [hv,hr]at h;subst h;obtain ⟨us,h1,h2,h3⟩:=fW hf j9 g8 hr;have s8:=hf.tm x;simp only[E5]at hv;split at hv
    ·rename_i s u i j hx
     rw[hx]at s8;split at hv
     ·rename_i cs gv
      rw[<-j9]at gv;obtain ⟨ad,w7,ht,hb⟩:=S6 s8;obtain ⟨b,g,arr,e,l7,hg,al,ju,m8,gj⟩:=rL hf.mem gv;obtain ⟨AlM,fu⟩:=V0 hv m8;have hld:=fY (P:=P) t agg n (XQ (by simpa using fp)) (by
       cases agg
       ·simpa using hn
       ·exact IW (by simpa using hn)) ad al ju m.w (λ q u' hq=>by
       have k7:q<al.length:=(zS hq).1;obtain ⟨xg,jg⟩:=hg (by omega);obtain ⟨g',ct,rfl⟩:=hb b l7;obtain rfl:g=g':=by rw[xg]at ct;simpa using ct
       rw[G7,XY jg];exact gj q u' hq)
      have Lc:(ZF a.tmps (.cell x t)).run P m.w = .ok (if agg then .agg al.toArray else al.getD 0 undef) m.w:=by
       show (do loadVar t (<-asAddr (a.tmps.getD x undef)):Sem Value).run P m.w=_;rw[w7];simpa [asAddr,Instr.loadAt,Instr.sureAddr] using hld
      have lq:CA B S m v (if agg then .agg al.toArray else al.getD 0 undef):=by
       unfold H4 at hv;cases agg with
       | true =>
        simp only[if_true,Option.some.injEq]at hv;subst hv;exact .agg cs al m8
       | false =>
        simp only[Bool.false_eq_true,if_false]at hv ⊢;split at hv
        ·rename_i c
         simp only[Option.some.injEq]at hv;subst hv;obtain ⟨u',eo,u6⟩:=S4 m8 (j:=0) (c:=c) rfl;simp only[List.getD,eo,Option.getD_some];exact .one u6
        ·cases hv
      refine ⟨(if agg then .agg al.toArray else al.getD 0 undef)::us,?_,by simp [h2],λ j' c u' hc hu => ?_⟩
      ·rw[List.mapM_cons,Sem.run_bind,Lc,Result.andThen_ok,Sem.run_bind,h1,Result.andThen_ok]
       rfl
      ·cases j' with
       | zero =>
        obtain rfl:v=c:=by simpa using hc
        obtain rfl:=Option.some.inj hu;exact lq
       | succ j'=>exact h3 j' c u' (by simpa using hc) (by simpa using hu)
     ·cases hv
    ·cases hv
 | [],_::_,_,g8,_=>by simp [L0]at g8
 | .tmp _::_,[],_,g8,_=>by simp [L0]at g8
 | .cell _ _::_,[],_,g8,_=>by simp [L0]at g8
 | .tmp _::_,.cell _ _ _::_,_,g8,_=>by simp [L0]at g8
 | .cell _ _::_,.tmp _::_,_,g8,_=>by simp [L0]at g8
end
theorem jV (hP:ProgOK P num L) {f:Nat} {fa:AFn} (hL:L f=some fa) (us:Array Value) (w:World):(callFunc (num f) us).run P w = .ok (.enter (num f) us) w:=by
 obtain ⟨fn,h1,h2,h3⟩:=hP.1 f fa hL;have hb:fn.body.isNone=false:=by
  simp only[okFn,Bool.and_eq_true]at h2;cases hbd:fn.body with
  | none=>rw[hbd]at h2;simp at h2
  | some c=>rfl
 unfold callFunc;simp only[Sem.run_bind,run_program,Result.andThen_ok,h1,h3,hb,Bool.false_eq_true,if_false,Sem.run_pure]
theorem pE (hP:ProgOK P num L) {n:Nat} (hC:GT P num (C3 L n)) {f:Nat} {vs:List AV} {own:AH} {r:AV} {l8:AH} (h:DN L (n+1) f vs own=some (r,l8)) (B:Nat) (S:Nat->Prop) (w0:World) (m:M) (us:List Value) (j9:m.own=own) (hm:BP B S w0 m) (hl:vs.length=us.length)
  (s8 : ∀ (j:Nat) (c:AV) (v:Value),vs[j]? = some c->us[j]? = some v->CV B S m c v) :
  Calls P (num f) us.toArray m.w λ e w' => ∃ u m',e = .returned u/\m'.w=w'/\m'.own=l8/\BP B S w0 m'/\DG B S m m'/\CV B S m' r u:=by
 rw[U7]at h;cases hL:L f with
 | none=>simp [hL]at h
 | some fa =>
  simp only[hL]at h;split at h
  ·rename_i Fm
   split at h
   ·rename_i st m7
    split at h
    ·rename_i Rp oo
     simp only[Option.some.injEq,Prod.mk.injEq]at h;obtain ⟨rfl,rfl⟩:=h;obtain ⟨fn,h1,h2,h3⟩:=hP.1 f fa hL;simp only[okFn,Bool.and_eq_true,beq_iff_eq,decide_eq_true_eq]at h2;obtain ⟨⟨⟨h4,h5⟩,h6⟩,h7⟩:=h2;split at h7
     ·rename_i c hc
      intro cs;have Bc:Frame.enter P (num f) us.toArray .normal=({ (default:Frame) with fn:=num f,kind := .normal }:Frame).at { tmps:=us.toArray++Array.replicate (fn.ntmps-us.toArray.size) undef,defers:=[] } [.code c]:=by
       simp [Frame.enter,Frame.at,h1,hc]
      have q6:us.length=fa.z8:=by rw[<-hl];exact Fm
      have Kl:FF B S w0 m fn.ntmps (g6 (CY 0 vs)) m { tmps:=us.toArray++Array.replicate (fn.ntmps-us.toArray.size) undef,defers:=[] }:=by
       refine ⟨hm,DG.refl m,λ i => ?_,by simp;omega,rfl⟩;rw[pD];simp only[Nat.zero_le,if_true,Nat.sub_zero];cases Mt:vs[i]? with
       | none=>exact .any _
       | some v =>
        have hi:i<us.length:=by rw[<-hl];exact (zS Mt).1
        have l7:(us.toArray++Array.replicate (fn.ntmps-us.toArray.size) undef).getD i undef=us[i]:=by
         rw[Array.getD_eq_getD_getElem?,Array.getElem?_append_left (by simpa using hi)];simp [hi]
        simp only[l7];exact s8 i v us[i] Mt (zE hi)
      obtain ⟨a',m',m6,Bp,ke,me⟩:=Af9 (m0:=m) hC { (default:Frame) with fn:=num f,kind := .normal } cs n [.code fa.body] ⟨CY 0 vs,own⟩ st m7 [.code c] (.code h7 .nil) m _ j9 Kl;obtain ⟨wg,hu1,Cx,Qm⟩:=fW (P:=P) me ke h6 oo;have xn:(results fn a'.tmps).run P m'.w = .ok (if h:wg.length=1 then wg[0] else .tuple wg.toArray) m'.w:=by
       have hr:results fn a'.tmps=(do let vs <-fn.results.mapM (ZF a'.tmps);pure (if h:vs.size=1 then vs[0] else .tuple vs)):=rfl;rw[hr,Sem.run_bind,Array.mapM_eq_mapM_toList];simp [hu1]
      refine ⟨.returned (if h:wg.length=1 then wg[0] else .tuple wg.toArray),m'.w,_,⟨_,m',rfl,rfl,ke,me.mem,me.ext,?_⟩,by rw[Bc];exact Bp,rfl,rfl,me.defers,rfl,fn,h1,xn⟩;unfold HP;split
      ·rename_i v
       have ti:wg.length=1:=by rw[<-Cx];rfl
       rw[dif_pos ti];exact .ca (Qm 0 v wg[0] rfl (zE (by omega)))
      ·rename_i k9
       have ti : ¬ wg.length=1:=λ e=>by
        rw[<-Cx]at e;cases Rp with
        | nil=>simp at e
        | cons q qs=>cases qs with
         | nil=>exact k9 q rfl
         | cons=>simp at e
       rw[dif_neg ti];exact .g7 Rp wg Cx Qm
     ·cases h7
    ·cases h
   ·cases h
  ·cases h
theorem Ae0 (S:Nat->Prop) (w:World):BP w.heap.size S w ⟨λ_ _=>none,AH.emp,w⟩ :=
 ⟨Below.refl _ _,Nat.le_refl _,λ_ _ _=>rfl,λ s t b h=>by simp [AH.get,AH.emp]at h,λ s t s' t' b b' g h=>by simp [AH.get,AH.emp]at h⟩
theorem mV {n f:Nat} {vs:List AV} {own:AH} {r:AV × AH} (h:DN L n f vs own=some r) : ∃ fa,L f=some fa:=by
 cases n with
 | zero=>simp [DN]at h
 | succ n =>
  rw[U7]at h;cases hL:L f with
  | none=>simp [hL]at h
  | some fa=>exact ⟨fa,rfl⟩
theorem eV {n f:Nat} {vs:List AV} {r:AV} (h:H7 (λ vs=>DN L n f vs AH.emp) vs=some r) : ∃ r0 o,DN L n f vs AH.emp=some (r0,o)/\QW o false r0=some r/\A4 r:=by
 unfold H7 at h;cases he:DN L n f vs AH.emp with
 | none=>simp [he]at h
 | some x =>
  obtain ⟨r0,o⟩:=x;simp only[he]at h;split at h
  ·rename_i r' hr
   split at h
   ·rename_i hc
    simp only[Option.some.injEq]at h;subst h;exact ⟨r0,o,rfl,hr,hc⟩
   ·cases h
  ·cases h
theorem cE {n f:Nat} {vs:List AV} {r:AV} (h:GX L n f vs=some r) : ∃ al,∃ x,DN L n f al AH.emp=some x:=by
 unfold GX J8 at h;split at h
 ·split at h
  ·rename_i r1 r2 h1 h2
   obtain ⟨r0,o,h3,_⟩:=eV h1;exact ⟨_,_,h3⟩
  ·cases h
 ·obtain ⟨r0,o,h3,_⟩:=eV h
  exact ⟨_,_,h3⟩
theorem fA (hP:ProgOK P num L) {n:Nat} (ih:GT P num (C3 L n)) {f:Nat} {vs:List AV} {r:AV} (h:H7 (λ vs=>DN L (n+1) f vs AH.emp) vs=some r) (S:Nat->Prop) (w:World) (us:List Value) (hl:vs.length=us.length)
  (lq : ∀ (j:Nat) (c:AV) (v:Value),vs[j]? = some c->us[j]? = some v->CA w.heap.size S ⟨λ_ _=>none,AH.emp,w⟩ c v) :
  Calls P (num f) us.toArray w λ e w' => ∃ u,e = .returned u/\Below w.heap.size w w'/\CV w.heap.size S ⟨λ_ _=>none,AH.emp,w'⟩ r u/\A4 r:=by
 obtain ⟨r0,o,h1,h2,h3⟩:=eV (L:=L) h;refine Calls.mono (pE hP ih h1 w.heap.size S w ⟨λ_ _=>none,AH.emp,w⟩ us rfl (Ae0 S w) hl λ j c v hc hv => .ca (lq j c v hc hv)) λ e w' ⟨u,m',he,hw,j9,lu,_,s8⟩ => ?_
 subst hw;refine ⟨u,he,lu.below,?_,h3⟩;refine DV.cv (m:=⟨λ_ _=>none,AH.emp,m'.w⟩) (Agw lu false (safe w.heap.size S ⟨λ_ _=>none,AH.emp,m'.w⟩) (λ l b hb hs => ?_) (λ s t g jr hg => ?_) (by rw[j9];exact h2) s8)
 ·rcases hs with h|⟨h,_⟩|h
  ·exact .inl h
  ·exact .inr (.inl ⟨h,λ s t jr=>by simp [AH.get,AH.emp]at jr⟩)
  ·exact .inr (.inr h)
 ·exact .inr (.inl ⟨(lu.ge jr hg).1,λ s t jr=>by simp [AH.get,AH.emp]at jr⟩)
theorem Tg (hP:ProgOK P num L) : ∀ n,GT P num (C3 L n):=by
 intro n;induction n with
 | zero =>
  exact ⟨λ f vs r h=>by obtain ⟨al,x,h1⟩:=cE (L:=L) (n:=0) (f:=f) (vs:=vs) (r:=r) h;simp [DN]at h1,λ f vs own r h=>by change DN L 0 f vs own=some r at h;simp [DN]at h,
   λ f vs r h=>by obtain ⟨al,x,h1⟩:=cE (L:=L) (n:=0) (f:=f) (vs:=vs) (r:=r) h;simp [DN]at h1,λ f vs own r l8 h=>by change DN L 0 f vs own=_ at h;simp [DN]at h,hP.2⟩
 | succ n ih =>
  refine ⟨λ f vs r h us w => ?_,λ f vs own r h us w => ?_,λ f vs r h S w us hl lq => ?_,λ f vs own r l8 h B S w0 m us j9 hm hl s8=>pE hP ih h B S w0 m us j9 hm hl s8,hP.2⟩
  ·obtain ⟨al,x,h1⟩:=cE (L:=L) h
   obtain ⟨fa,hL⟩:=mV h1;exact jV hP hL us w
  ·obtain ⟨fa,hL⟩:=mV (L:=L) h
   exact jV hP hL us w
  ·have h:J8 (L.pf f) (λ vs=>DN L (n+1) f vs AH.emp) vs=some r:=h
   unfold J8 at h;split at h
   ·rename_i q al _ _
    split at h
    ·rename_i r1 r2 h1 h2
     split at h
     ·rename_i e
      subst e;obtain rfl:=Option.some.inj h;cases us with
      | nil=>simp at hl
      | cons u us =>
       have h0:=lq 0 _ u rfl rfl;have hu : ∃ a cap,u = .slice a 0 cap:=by
        cases h0 with
        | one h0=>cases h0 with
         | rd h0=>cases h0 with
          | jc l a cap=>exact ⟨a,cap,rfl⟩
          | sl l es b o a7 cap u k9=>exact absurd rfl k9
       obtain ⟨a,cap,rfl⟩:=hu;have key : ∀ b,a.isNone=b -> ∀ (j:Nat) (c:AV) (v:Value),(AV.cj (.bool b)::al)[j]? = some c->(Value.slice a 0 cap::us)[j]? = some v->CA w.heap.size S ⟨λ_ _=>none,AH.emp,w⟩ c v:=λ b hb j c v hc hv=>by
        cases j with
        | zero =>
         obtain rfl:=Option.some.inj hc;obtain rfl:=Option.some.inj hv;exact .one (.rd (.emp b a cap hb))
        | succ j=>exact lq (j+1) c v hc hv
       cases hb:a.isNone with
       | true=>exact fA hP ih h1 S w _ (by simpa using hl) (key true hb)
       | false=>exact fA hP ih h2 S w _ (by simpa using hl) (key false hb)
     ·cases h
    ·cases h
   ·exact fA hP ih h S w us hl lq
end
end Go.c5
namespace Go.c5
abbrev OkF (P : Program) (num : Nat → Nat) (p : Nat × AFn) : Prop := ∃ fn, P.funcs[num p.1]? = some fn ∧ okFn P num fn p.2 = true ∧ (fn.name == "runtime.NumGoroutine") = false
theorem AfC {P:Program} {num:Nat->Nat} (l:List (Nat × AFn)) (h : ∀ p∈l,OkF P num p):ProgOK P num ⟨λ f=>l.lookup f,num⟩:=by
 refine ⟨?_,rfl⟩;intro f fa hf;have hm:(f,fa)∈l:=by
  clear h;change l.lookup f=some fa at hf;induction l with
  | nil=>simp at hf
  | cons x r ih =>
   obtain ⟨k,v⟩:=x;rw[List.lookup_cons]at hf;cases hk:(f == k) with
   | true =>
    rw[hk]at hf;have:f=k:=by simpa using hk
    subst this;simp at hf;simp [hf]
   | false =>
    rw[hk]at hf;exact List.mem_cons_of_mem _ (ih hf)
 exact h (f,fa) hm
end Go.c5

namespace Go.c5.F
open C
namespace KJ
def r0:=[o 2 (.b7 (.c (.bool false)))]
def r1:=[m 3 0,m 4 0,o 5 (.bin .neq 3 4),m 2 5]
def c:=(s (d r0 [2]) (s (d r1 [0,3,4,5]) .ret))
end KJ
def KJ:AFn:=⟨1,KJ.c,[.tmp 2],false⟩
namespace KL
def r0:=[o 2 (.b7 (.c (.bool false)))]
def r1:=[m 3 0,m 4 0,o 5 (.bin .neq 3 4),m 2 5]
def c:=(s (d r0 [2]) (s (d r1 [0,3,4,5]) .ret))
end KL
def KL:AFn:=⟨1,KL.c,[.tmp 2],false⟩
namespace KH
def r0:=[o 4 (.b7 (k 0))]
def r1:=[m 7 0,o 8 (.call 58 [7]),m 5 8]
def r2:=[m 9 1,o 10 (.call 58 [9]),m 6 10]
def r3:=[m 11 5]
def r4:=[m 12 6]
def r5:=[o 4 (.b7 (k 0))]
def r6:=[o 4 (.b7 (k (-1)))]
def r7:=[m 13 6]
def r8:=[o 4 (.b7 (k 1))]
def r9:=[m 14 0,m 15 1,o 16 (.bin .lss 14 15)]
def BT:=[o 4 (.b7 (k (-1)))]
def B2:=[m 17 0,m 18 1,o 19 (.bin .gtr 17 18)]
def o6:=[o 4 (.b7 (k 1))]
def CG:=[o 4 (.b7 (k 0))]
def c:=(s (d r0 [4]) (s (d r1 [7,8]) (s (d r2 [9,10]) (s (s (d r3 [5]) (i 11 (s (s (d r4 [0,1,6,11]) (i 12 (s (d r5 [12]) .ret) .skip)) (s (d r6 [12]) .ret)) .skip)) (s (s (d r7 [6,11]) (i 13 (s (d r8 [0,1,13]) .ret) .skip)) (s (s (d r9 [13,14,15]) (i 16 (s (d BT [0,1,16]) .ret) .skip)) (s (s (d B2 [0,1,16,17,18]) (i 19 (s (d o6 [19]) .ret) .skip)) (s (d CG [19]) .ret))))))))
end KH
def KH:AFn:=⟨2,KH.c,[.tmp 4],false⟩
namespace KI
def r0:=[o 4 (.b7 (k 0))]
def r1:=[m 7 0,o 8 (.call 59 [7]),m 5 8]
def r2:=[m 9 1,o 10 (.call 59 [9]),m 6 10]
def r3:=[m 11 5]
def r4:=[m 12 6]
def r5:=[o 4 (.b7 (k 0))]
def r6:=[o 4 (.b7 (k (-1)))]
def r7:=[m 13 6]
def r8:=[o 4 (.b7 (k 1))]
def r9:=[m 14 0,m 15 1,o 16 (.bin .lss 14 15)]
def BT:=[o 4 (.b7 (k (-1)))]
def B2:=[m 17 0,m 18 1,o 19 (.bin .gtr 17 18)]
def o6:=[o 4 (.b7 (k 1))]
def CG:=[o 4 (.b7 (k 0))]
def c:=(s (d r0 [4]) (s (d r1 [7,8]) (s (d r2 [9,10]) (s (s (d r3 [5]) (i 11 (s (s (d r4 [0,1,6,11]) (i 12 (s (d r5 [12]) .ret) .skip)) (s (d r6 [12]) .ret)) .skip)) (s (s (d r7 [6,11]) (i 13 (s (d r8 [0,1,13]) .ret) .skip)) (s (s (d r9 [13,14,15]) (i 16 (s (d BT [0,1,16]) .ret) .skip)) (s (s (d B2 [0,1,16,17,18]) (i 19 (s (d o6 [19]) .ret) .skip)) (s (d CG [19]) .ret))))))))
end KI
def KI:AFn:=⟨2,KI.c,[.tmp 4],false⟩
namespace HH
def r0:=[o 2 (.b7 (.c .nil))]
def r1:=[m 3 0,o 4 (.rh false 3)]
def r2:=[o 2 (.b7 (.c .nil))]
def r3:=[o 5 (.c7 5 1 []),m 6 0,o 7 (.app 7 1 4 5 6),m 2 7]
def c:=(s (d r0 [2]) (s (s (d r1 [3]) (i 4 (s (d r2 [0,4]) .ret) .skip)) (s (d r3 [0,4,5,6,7]) .ret)))
end HH
def HH:AFn:=⟨1,HH.c,[.tmp 2],true⟩
namespace LA
def r0:=[o 2 (.b7 (k 0))]
def r1:=[m 3 0,o 4 (.bin .geq 3 (.c (.int .u32 (65536))))]
def r2:=[m 5 0,o 6 (.bin .shr 5 (.c (.int .u64 (16)))),m 0 6]
def r3:=[o 2 (.b7 (k 16))]
def r4:=[m 7 0,o 8 (.bin .geq 7 (.c (.int .u32 (256))))]
def r5:=[m 9 0,o 10 (.bin .shr 9 (.c (.int .u64 (8)))),m 0 10]
def r6:=[m 11 2,o 12 (.bin .add 11 (k 8)),m 2 12]
def r7:=[m 13 2,m 14 0,o 15 (.conv .u8 14),
 o 16 (.fy (List.replicate 1 0++List.replicate 1 1++List.replicate 2 2++List.replicate 4 3++List.replicate 8 4++List.replicate 16 5++List.replicate 32 6++List.replicate 64 7++List.replicate 128 8) 15),
 o 17 (.conv .i64 16),o 18 (.bin .add 13 17),m 2 18]
def c:=(s (p r0) (s (s (d r1 [3]) (i 4 (s (d r2 [2,4,5,6]) (p r3)) .skip)) (s (s (d r4 [4,7]) (i 8 (s (d r5 [8,9,10]) (d r6 [11,12])) .skip)) (s (d r7 [0,8,13,14,15,16,17,18]) .ret))))
end LA
def LA:AFn:=⟨1,LA.c,[.tmp 2],false⟩
namespace K9
def r0:=[o 2 (.b7 (k 0))]
def r1:=[m 3 0,o 4 (.call 63 [3]),o 5 (.bin .sub (k 32) 4),m 2 5]
def c:=(s (d r0 [2]) (s (d r1 [0,3,4,5]) .ret))
end K9
def K9:AFn:=⟨1,K9.c,[.tmp 2],false⟩
namespace FI
def r0:=[o 2 (.b7 (.c .nil))]
def r1:=[m 4 0,o 5 (.len 4),m 3 5]
def r2:=[m 6 3,o 7 (.bin .gtr 6 (k 0)),m 8 7,g 9 8 true (.b7 0),g 10 8 true (.b7 3),g 11 8 true (.bin .sub 10 (k 1)),g 12 8 true (.a5 none 1 9 11),
 g 13 8 true (.ld false 1 12),g 14 8 true (.bin .eql 13 (.c (.int .u32 (0)))),o 15 (.pick 8 14 (.c (.bool false)))]
def r3:=[m 16 3,o 17 (.bin .sub 16 (k 1)),m 3 17]
def r4:=[m 18 0,m 19 3,o 20 (.fg 1 18 none (some 19)),m 2 20]
def l1:=(s (s (d r2 [6,7,8,9,10,11,12,13,14]) (i 15 .skip (x 0))) (b 1 (d r3 [15,16,17])))
def c:=(s (d r0 [2]) (s (d r1 [4,5]) (s (b 0 (w l1)) (s (d r4 [0,3,15,18,19,20]) .ret))))
end FI
def FI:AFn:=⟨1,FI.c,[.tmp 2],false⟩
namespace LI
def r0:=[o 2 (.b7 (.c .nil))]
def r1:=[m 3 0,o 4 (.e9 65 [3]),o 5 (.call 62 [4]),m 2 5]
def c:=(s (d r0 [2]) (s (d r1 [0,3,4,5]) .ret))
end LI
def LI:AFn:=⟨1,LI.c,[.tmp 2],false⟩
namespace LE
def r0:=[o 4 (.b7 (k 0))]
def r1:=[m 8 0,o 9 (.e9 65 [8]),m 10 1,o 11 (.e9 65 [10]),m 5 9,m 6 11]
def r2:=[m 12 5,o 13 (.len 12),m 14 6,o 15 (.len 14),o 16 (.bin .neq 13 15)]
def r3:=[m 17 5,o 18 (.len 17),m 19 6,o 20 (.len 19),o 21 (.call 60 [18,20]),m 4 21]
def r4:=[m 22 5,o 23 (.len 22),o 24 (.bin .sub 23 (k 1)),m 7 24]
def r5:=[m 25 7,o 26 (.bin .geq 25 (k 0))]
def r7:=[m 29 5,m 30 7,o 31 (.a5 none 1 29 30),o 32 (.ld false 1 31),m 33 6,m 34 7,o 35 (.a5 none 1 33 34),o 36 (.ld false 1 35),o 37 (.bin .neq 32 36)]
def r8:=[m 38 5,m 39 7,o 40 (.a5 none 1 38 39),o 41 (.ld false 1 40),m 42 6,m 43 7,o 44 (.a5 none 1 42 43),o 45 (.ld false 1 44),o 46 (.call 61 [41,45]),
 m 4 46]
def r6:=[m 27 7,o 28 (.bin .sub 27 (k 1)),m 7 28]
def r9:=[o 4 (.b7 (k 0))]
def l1:=(s (s (d r5 [25]) (i 26 .skip (x 0))) (s (b 1 (s (e r7 [26,29,30,31,32,33,34,35,36]) (i 37 (s (e r8 [5,6,7,37,38,39,40,41,42,43,44,45,46]) .ret) .skip))) (d r6 [27,28,37])))
def c:=(s (d r0 [4]) (s (d r1 [0,1,8,9,10,11]) (s (s (d r2 [12,13,14,15]) (i 16 (s (d r3 [5,6,16,17,18,19,20,21]) .ret) .skip)) (s (s (d r4 [16,22,23,24]) (b 0 (w l1))) (s (d r9 [5,6,7,26]) .ret)))))
end LE
def LE:AFn:=⟨2,LE.c,[.tmp 4],false⟩
namespace LD
def r0:=[o 4 (.b7 (.c .nil))]
def r1:=[m 12 0,o 13 (.e9 65 [12]),m 14 1,o 15 (.e9 65 [14]),m 5 13,m 6 15]
def r2:=[m 16 5,o 17 (.len 16),m 18 6,o 19 (.len 18),o 20 (.bin .lss 17 19)]
def r3:=[m 21 6,m 22 5,m 5 21,m 6 22]
def r4:=[m 23 5,o 24 (.len 23),o 25 (.bin .add 24 (k 1)),o 26 (.mk 26 1 4 [(.int .u32 (0))] 25 25),m 7 26]
def r5:=[o 8 (.b7 (.c (.int .u64 (0))))]
def r6:=[m 27 5,o 28 (.len 27),o 29 (.b7 (k 0))]
def r7:=[o 30 (.bin .lss 29 28)]
def r8:=[m 31 29,o 32 (.a5 none 1 27 29),o 33 (.ld false 1 32),m 9 31,m 10 33]
def r9:=[m 34 10,o 35 (.conv .u64 34),m 36 8,o 37 (.bin .add 35 36),m 11 37]
def BT:=[m 38 9,m 39 6,o 40 (.len 39),o 41 (.bin .lss 38 40)]
def B2:=[m 42 11,m 43 6,m 44 9,o 45 (.a5 none 1 43 44),o 46 (.ld false 1 45),o 47 (.conv .u64 46),o 48 (.bin .add 42 47),m 11 48]
def o6:=[m 49 7,m 50 9,m 51 11,o 52 (.conv .u32 51),o 53 (.a5 none 1 49 50),n (.st 1 53 52)]
def CG:=[m 54 11,o 55 (.bin .shr 54 (.c (.int .u64 (32)))),m 8 55]
def w4:=[o 56 (.bin .add 29 (k 1)),m 29 56]
def y9:=[m 57 7,m 58 5,o 59 (.len 58),m 60 8,o 61 (.conv .u32 60),o 62 (.a5 none 1 57 59),n (.st 1 62 61)]
def ak:=[m 63 7,o 64 (.e9 65 [63]),m 4 64]
def l1:=(s (p r7) (s (i 30 .skip (x 0)) (s (b 1 (s (d r8 [30,31,32,33]) (s (d r9 [8,10,34,35,36,37]) (s (s (d BT [38,39,40]) (i 41 (d B2 [41,42,43,44,45,46,47,48]) .skip)) (s (d o6 [9,41,49,50,51,52,53]) (d CG [11,54,55])))))) (d w4 [56]))))
def c:=(s (d r0 [4]) (s (d r1 [0,1,12,13,14,15]) (s (s (d r2 [16,17,18,19]) (i 20 (d r3 [20,21,22]) .skip)) (s (d r4 [20,23,24,25,26]) (s (p r5) (s (s (p r6) (b 0 (w l1))) (s (d y9 [5,6,8,27,28,29,30,57,58,59,60,61,62]) (s (d ak [7,63,64]) .ret))))))))
end LD
def LD:AFn:=⟨2,LD.c,[.tmp 4],false⟩
namespace LH
def r0:=[o 4 (.b7 (.c .nil))]
def r1:=[m 12 0,m 13 1,o 14 (.call 67 [12,13]),o 15 (.bin .leq 14 (k 0))]
def r2:=[o 4 (.b7 (.c .nil))]
def r3:=[m 16 0,o 17 (.e9 65 [16]),m 18 1,o 19 (.e9 65 [18]),m 5 17,m 6 19]
def r4:=[m 20 5,o 21 (.len 20),o 22 (.mk 22 1 4 [(.int .u32 (0))] 21 21),m 7 22]
def r5:=[o 8 (.b7 (.c (.int .u64 (0))))]
def r6:=[m 23 5,o 24 (.len 23),o 25 (.b7 (k 0))]
def r7:=[o 26 (.bin .lss 25 24)]
def r8:=[m 27 25,o 28 (.a5 none 1 23 25),o 29 (.ld false 1 28),m 9 27,m 10 29]
def r9:=[m 30 10,o 31 (.conv .u64 30),m 32 8,o 33 (.bin .sub 31 32),m 11 33]
def BT:=[m 34 9,m 35 6,o 36 (.len 35),o 37 (.bin .lss 34 36)]
def B2:=[m 38 11,m 39 6,m 40 9,o 41 (.a5 none 1 39 40),o 42 (.ld false 1 41),o 43 (.conv .u64 42),o 44 (.bin .sub 38 43),m 11 44]
def o6:=[m 45 7,m 46 9,m 47 11,o 48 (.conv .u32 47),o 49 (.a5 none 1 45 46),n (.st 1 49 48)]
def CG:=[m 50 11,o 51 (.bin .shr 50 (.c (.int .u64 (63)))),m 8 51]
def w4:=[o 52 (.bin .add 25 (k 1)),m 25 52]
def y9:=[m 53 7,o 54 (.e9 65 [53]),m 4 54]
def l1:=(s (p r7) (s (i 26 .skip (x 0)) (s (b 1 (s (d r8 [26,27,28,29]) (s (d r9 [8,10,30,31,32,33]) (s (s (d BT [34,35,36]) (i 37 (d B2 [37,38,39,40,41,42,43,44]) .skip)) (s (d o6 [9,37,45,46,47,48,49]) (d CG [11,50,51])))))) (d w4 [52]))))
def c:=(s (d r0 [4]) (s (s (d r1 [12,13,14]) (i 15 (s (d r2 [0,1,15]) .ret) .skip)) (s (d r3 [0,1,15,16,17,18,19]) (s (d r4 [20,21,22]) (s (p r5) (s (s (d r6 [5]) (b 0 (w l1))) (s (d y9 [6,7,8,23,24,25,26,53,54]) .ret)))))))
end LH
def LH:AFn:=⟨2,LH.c,[.tmp 4],false⟩
namespace LG
def r0:=[o 4 (.b7 (.c .nil))]
def r1:=[m 14 0,o 15 (.e9 65 [14]),m 16 1,o 17 (.e9 65 [16]),m 5 15,m 6 17]
def r2:=[m 18 5,o 19 (.len 18),o 20 (.bin .eql 19 (k 0)),m 21 20,g 22 21 false (.b7 6),g 23 21 false (.len 22),g 24 21 false (.bin .eql 23 (k 0)),
 o 25 (.pick 21 (.c (.bool true)) 24)]
def r3:=[o 4 (.b7 (.c .nil))]
def r4:=[m 26 5,o 27 (.len 26),m 28 6,o 29 (.len 28),o 30 (.bin .add 27 29),o 31 (.mk 31 1 4 [(.int .u32 (0))] 30 30),m 7 31]
def r5:=[m 32 5,o 33 (.len 32),o 34 (.b7 (k 0))]
def r6:=[o 35 (.bin .lss 34 33)]
def r7:=[m 36 34,o 37 (.a5 none 1 32 34),o 38 (.ld false 1 37),m 8 36,m 9 38]
def r8:=[m 39 9,o 40 (.bin .eql 39 (.c (.int .u32 (0))))]
def r9:=[o 10 (.b7 (.c (.int .u64 (0))))]
def BT:=[m 41 6,o 42 (.len 41),o 43 (.b7 (k 0))]
def B2:=[o 44 (.bin .lss 43 42)]
def o6:=[m 45 43,o 46 (.a5 none 1 41 43),o 47 (.ld false 1 46),m 11 45,m 12 47]
def CG:=[m 48 9,o 49 (.conv .u64 48),m 50 12,o 51 (.conv .u64 50),o 52 (.bin .mul 49 51),m 53 7,m 54 8,m 55 11,o 56 (.bin .add 54 55),o 57 (.a5 none 1 53 56),
 o 58 (.ld false 1 57),o 59 (.conv .u64 58),o 60 (.bin .add 52 59),m 61 10,o 62 (.bin .add 60 61),m 13 62]
def w4:=[m 63 7,m 64 8,m 65 11,o 66 (.bin .add 64 65),m 67 13,o 68 (.conv .u32 67),o 69 (.a5 none 1 63 66),n (.st 1 69 68)]
def y9:=[m 70 13,o 71 (.bin .shr 70 (.c (.int .u64 (32)))),m 10 71]
def ak:=[o 72 (.bin .add 43 (k 1)),m 43 72]
def DR:=[m 73 7,m 74 8,m 75 6,o 76 (.len 75),o 77 (.bin .add 74 76),m 78 10,o 79 (.conv .u32 78),o 80 (.a5 none 1 73 77),n (.st 1 80 79)]
def bf:=[o 81 (.bin .add 34 (k 1)),m 34 81]
def de:=[m 82 7,o 83 (.e9 65 [82]),m 4 83]
def l2:=(s (p B2) (s (i 44 .skip (x 2)) (s (b 3 (s (d o6 [44,45,46,47]) (s (d CG [10,12,48,49,50,51,52,53,54,55,56,57,58,59,60,61,62]) (s (d w4 [11,63,64,65,66,67,68,69]) (d y9 [13,70,71]))))) (d ak [72]))))
def l1:=(s (p r6) (s (i 35 .skip (x 0)) (s (b 1 (s (d r7 [35,36,37,38]) (s (s (d r8 [39]) (i 40 (x 1) .skip)) (s (d r9 [40]) (s (s (p BT) (b 2 (w l2))) (d DR [8,9,10,41,42,43,44,73,74,75,76,77,78,79,80])))))) (d bf [8,9,40,81]))))
def c:=(s (d r0 [4]) (s (d r1 [0,1,14,15,16,17]) (s (s (d r2 [18,19,20,21,22,23,24]) (i 25 (s (d r3 [5,6,25]) .ret) .skip)) (s (d r4 [25,26,27,28,29,30,31]) (s (s (d r5 [5]) (b 0 (w l1))) (s (d de [6,7,32,33,34,35,82,83]) .ret))))))
end LG
def LG:AFn:=⟨2,LG.c,[.tmp 4],false⟩
namespace I9
def r0:=[o 6 (.b7 (.c .nil))]
def r1:=[m 11 2,o 12 (.mk 71012 1 4 [(.int .u32 (0))] 11 11),m 7 12]
def r2:=[o 8 (.b7 (.c (.int .u32 (0))))]
def r3:=[m 13 0,o 14 (.len 13),o 15 (.b7 (k 0))]
def r4:=[o 16 (.bin .lss 15 14)]
def r5:=[m 17 15,o 18 (.a5 none 1 13 15),o 19 (.ld false 1 18),m 9 17,m 10 19]
def r6:=[m 20 7,m 21 9,m 22 10,m 23 1,o 24 (.bin .shl 22 23),m 25 8,o 26 (.bin .or 24 25),o 27 (.a5 none 1 20 21),n (.st 1 27 26)]
def r7:=[m 28 10,o 29 (.conv .u64 28),m 30 1,o 31 (.bin .shl 29 30),o 32 (.bin .shr 31 (.c (.int .u64 (32)))),o 33 (.conv .u32 32),m 8 33]
def r8:=[o 34 (.bin .add 15 (k 1)),m 15 34]
def r9:=[m 35 2,m 36 0,o 37 (.len 36),o 38 (.bin .gtr 35 37)]
def BT:=[m 39 7,m 40 0,o 41 (.len 40),m 42 8,o 43 (.a5 none 1 39 41),n (.st 1 43 42)]
def B2:=[m 44 7,m 6 44]
def l1:=(s (p r4) (s (i 16 .skip (x 0)) (s (b 1 (s (d r5 [16,17,18,19]) (s (d r6 [8,9,20,21,22,23,24,25,26,27]) (d r7 [10,28,29,30,31,32,33])))) (d r8 [34]))))
def c:=(s (d r0 [6]) (s (d r1 [11,12]) (s (p r2) (s (s (p r3) (b 0 (w l1))) (s (s (d r9 [1,2,13,14,15,16,35,36,37]) (i 38 (d BT [0,8,38,39,40,41,42,43]) .skip)) (s (d B2 [0,7,8,38,44]) .ret))))))
end I9
def I9:AFn:=⟨3,I9.c,[.tmp 6],false⟩
namespace LN
def r0:=[o 4 (.b7 (.c .nil))]
def r1:=[m 8 0,o 9 (.len 8),o 10 (.mk 10 1 4 [(.int .u32 (0))] 9 9),m 5 10]
def r2:=[o 6 (.b7 (.c (.int .u32 (0))))]
def r3:=[m 11 0,o 12 (.len 11),o 13 (.bin .sub 12 (k 1)),m 7 13]
def r4:=[m 14 7,o 15 (.bin .geq 14 (k 0))]
def r6:=[m 18 5,m 19 7,m 20 0,m 21 7,o 22 (.a5 none 1 20 21),o 23 (.ld false 1 22),m 24 1,o 25 (.bin .shr 23 24),m 26 6,o 27 (.bin .or 25 26),
 o 28 (.a5 none 1 18 19),n (.st 1 28 27)]
def r7:=[m 29 0,m 30 7,o 31 (.a5 none 1 29 30),o 32 (.ld false 1 31),o 33 (.conv .u64 32),m 34 1,o 35 (.bin .sub (.c (.int .u64 (32))) 34),
 o 36 (.bin .shl 33 35),o 37 (.conv .u32 36),m 6 37]
def r5:=[m 16 7,o 17 (.bin .sub 16 (k 1)),m 7 17]
def r8:=[m 38 5,m 4 38]
def l1:=(s (s (d r4 [14]) (i 15 .skip (x 0))) (s (b 1 (s (d r6 [6,15,18,19,20,21,22,23,24,25,26,27,28]) (d r7 [29,30,31,32,33,34,35,36,37]))) (d r5 [16,17])))
def c:=(s (d r0 [4]) (s (d r1 [8,9,10]) (s (p r2) (s (s (d r3 [11,12,13]) (b 0 (w l1))) (s (d r8 [0,1,5,6,7,15,38]) .ret)))))
end LN
def LN:AFn:=⟨2,LN.c,[.tmp 4],false⟩
namespace FO
def r0:=[o 4 (.b7 (.c (.int .u32 (0))))]
def r1:=[m 19 1,o 20 (.len 19),m 5 20]
def r2:=[m 21 0,m 22 5,o 23 (.a5 none 1 21 22),o 24 (.ld false 1 23),o 25 (.conv .u64 24),o 26 (.bin .shl 25 (.c (.int .u64 (32)))),m 27 0,m 28 5,
 o 29 (.bin .sub 28 (k 1)),o 30 (.a5 none 1 27 29),o 31 (.ld false 1 30),o 32 (.conv .u64 31),o 33 (.bin .or 26 32),m 6 33]
def r3:=[m 34 6,m 35 1,m 36 5,o 37 (.bin .sub 36 (k 1)),o 38 (.a5 none 1 35 37),o 39 (.ld false 1 38),o 40 (.conv .u64 39),o 41 (.bin .quo 34 40),m 42 6,
 m 43 1,m 44 5,o 45 (.bin .sub 44 (k 1)),o 46 (.a5 none 1 43 45),o 47 (.ld false 1 46),o 48 (.conv .u64 47),o 49 (.bin .rem 42 48),m 7 41,m 8 49]
def r4:=[m 50 7,o 51 (.bin .geq 50 (.c (.int .u64 (4294967296)))),m 52 51,g 53 52 false (.b7 7),g 54 52 false (.b7 1),g 55 52 false (.b7 5),
 g 56 52 false (.bin .sub 55 (k 2)),g 57 52 false (.a5 none 1 54 56),g 58 52 false (.ld false 1 57),g 59 52 false (.conv .u64 58),
 g 60 52 false (.bin .mul 53 59),g 61 52 false (.b7 8),g 62 52 false (.bin .shl 61 (.c (.int .u64 (32)))),g 63 52 false (.b7 0),g 64 52 false (.b7 5),
 g 65 52 false (.bin .sub 64 (k 2)),g 66 52 false (.a5 none 1 63 65),g 67 52 false (.ld false 1 66),g 68 52 false (.conv .u64 67),
 g 69 52 false (.bin .or 62 68),g 70 52 false (.bin .gtr 60 69),o 71 (.pick 52 (.c (.bool true)) 70)]
def r5:=[m 72 7,o 73 (.bin .sub 72 (.c (.int .u64 (1)))),m 7 73]
def r6:=[m 74 8,m 75 1,m 76 5,o 77 (.bin .sub 76 (k 1)),o 78 (.a5 none 1 75 77),o 79 (.ld false 1 78),o 80 (.conv .u64 79),o 81 (.bin .add 74 80),m 8 81]
def r7:=[m 82 8,o 83 (.bin .geq 82 (.c (.int .u64 (4294967296))))]
def r8:=[o 9 (.b7 (.c (.int .u64 (0)))),o 10 (.b7 (.c (.int .u64 (0))))]
def r9:=[m 84 1,o 85 (.len 84),o 86 (.b7 (k 0))]
def BT:=[o 87 (.bin .lss 86 85)]
def B2:=[m 88 86,o 89 (.a5 none 1 84 86),o 90 (.ld false 1 89),m 11 88,m 12 90]
def o6:=[m 91 7,m 92 12,o 93 (.conv .u64 92),o 94 (.bin .mul 91 93),m 95 9,o 96 (.bin .add 94 95),m 13 96]
def CG:=[m 97 13,o 98 (.bin .shr 97 (.c (.int .u64 (32)))),m 9 98]
def w4:=[m 99 0,m 100 11,o 101 (.a5 none 1 99 100),o 102 (.ld false 1 101),o 103 (.conv .u64 102),m 104 13,o 105 (.conv .u32 104),o 106 (.conv .u64 105),
 o 107 (.bin .sub 103 106),m 108 10,o 109 (.bin .sub 107 108),m 14 109]
def y9:=[m 110 0,m 111 11,m 112 14,o 113 (.conv .u32 112),o 114 (.a5 none 1 110 111),n (.st 1 114 113)]
def ak:=[m 115 14,o 116 (.bin .shr 115 (.c (.int .u64 (63)))),m 10 116]
def DR:=[o 117 (.bin .add 86 (k 1)),m 86 117]
def bf:=[m 118 0,m 119 5,o 120 (.a5 none 1 118 119),o 121 (.ld false 1 120),o 122 (.conv .u64 121),m 123 9,o 124 (.bin .sub 122 123),m 125 10,
 o 126 (.bin .sub 124 125),m 15 126]
def de:=[m 127 0,m 128 5,m 129 15,o 130 (.conv .u32 129),o 131 (.a5 none 1 127 128),n (.st 1 131 130)]
def ep:=[m 132 15,o 133 (.bin .shr 132 (.c (.int .u64 (63)))),o 134 (.bin .eql 133 (.c (.int .u64 (0))))]
def il:=[m 135 7,o 136 (.conv .u32 135),m 4 136]
def jj:=[o 9 (.b7 (.c (.int .u64 (0))))]
def kg:=[m 137 1,o 138 (.len 137),o 139 (.b7 (k 0))]
def HE:=[o 140 (.bin .lss 139 138)]
def H8:=[m 141 139,o 142 (.a5 none 1 137 139),o 143 (.ld false 1 142),m 16 141,m 17 143]
def JC:=[m 144 0,m 145 16,o 146 (.a5 none 1 144 145),o 147 (.ld false 1 146),o 148 (.conv .u64 147),m 149 17,o 150 (.conv .u64 149),o 151 (.bin .add 148 150),
 m 152 9,o 153 (.bin .add 151 152),m 18 153]
def JD:=[m 154 0,m 155 16,m 156 18,o 157 (.conv .u32 156),o 158 (.a5 none 1 154 155),n (.st 1 158 157)]
def PQ:=[m 159 18,o 160 (.bin .shr 159 (.c (.int .u64 (32)))),m 9 160]
def PR:=[o 161 (.bin .add 139 (k 1)),m 139 161]
def yd:=[m 162 0,m 163 5,o 164 (.a5 none 1 162 163),o 165 (.ld false 1 164),m 166 9,o 167 (.conv .u32 166),o 168 (.bin .add 165 167),
 o 169 (.a5 none 1 162 163),n (.st 1 169 168)]
def zt:=[m 170 7,o 171 (.bin .sub 170 (.c (.int .u64 (1)))),o 172 (.conv .u32 171),m 4 172]
def l1:=(s (s (e r4 [50,51,52,53,54,55,56,57,58,59,60,61,62,63,64,65,66,67,68,69,70,83]) (i 71 .skip (x 0))) (b 1 (s (d r5 [71,72,73]) (s (d r6 [74,75,76,77,78,79,80,81]) (s (d r7 [82]) (i 83 (x 0) .skip))))))
def l2:=(s (p BT) (s (i 87 .skip (x 2)) (s (b 3 (s (d B2 [87,88,89,90]) (s (d o6 [9,12,91,92,93,94,95,96]) (s (d CG [97,98]) (s (d w4 [10,13,99,100,101,102,103,104,105,106,107,108,109]) (s (d y9 [11,110,111,112,113,114]) (d ak [14,115,116]))))))) (d DR [117]))))
def l3:=(s (p HE) (s (i 140 .skip (x 4)) (s (b 5 (s (d H8 [140,141,142,143]) (s (d JC [9,17,144,145,146,147,148,149,150,151,152,153]) (s (d JD [16,154,155,156,157,158]) (d PQ [18,159,160]))))) (d PR [161]))))
def c:=(s (d r0 [4]) (s (d r1 [19,20]) (s (e r2 [21,22,23,24,25,26,27,28,29,30,31,32,33]) (s (e r3 [6,34,35,36,37,38,39,40,41,42,43,44,45,46,47,48,49]) (s (b 0 (w l1)) (s (d r8 [8,71,83]) (s (s (p r9) (b 2 (w l2))) (s (d bf [9,10,84,85,86,87,118,119,120,121,122,123,124,125,126]) (s (d de [127,128,129,130,131]) (s (s (d ep [15,132,133]) (i 134 (s (d il [0,1,5,7,134,135,136]) .ret) .skip)) (s (d jj [134]) (s (s (d kg [1]) (b 4 (w l3))) (s (d yd [0,5,9,137,138,139,140,162,163,164,165,166,167,168,169]) (s (d zt [7,170,171,172]) .ret))))))))))))))
end FO
def FO:AFn:=⟨2,FO.c,[.tmp 4],false⟩
namespace LL
def r0:=[o 4 (.b7 (.c .nil)),o 5 (.b7 (.c .nil))]
def r1:=[m 15 0,m 16 1,o 17 (.call 67 [15,16]),o 18 (.bin .lss 17 (k 0))]
def r2:=[m 19 0,o 20 (.call 62 [19]),o 4 (.b7 (.c .nil)),m 5 20]
def r3:=[m 21 1,o 22 (.len 21),m 6 22]
def r4:=[m 23 0,o 24 (.len 23),m 25 6,o 26 (.bin .sub 24 25),o 27 (.bin .add 26 (k 1)),o 28 (.mk 28 1 4 [(.int .u32 (0))] 27 27),m 7 28]
def r5:=[m 29 6,o 30 (.bin .eql 29 (k 1))]
def r6:=[o 8 (.b7 (.c (.int .u64 (0))))]
def r7:=[m 31 0,o 32 (.len 31),o 33 (.bin .sub 32 (k 1)),m 9 33]
def r8:=[m 34 9,o 35 (.bin .geq 34 (k 0))]
def BT:=[m 38 8,o 39 (.bin .shl 38 (.c (.int .u64 (32)))),m 40 0,m 41 9,o 42 (.a5 none 1 40 41),o 43 (.ld false 1 42),o 44 (.conv .u64 43),
 o 45 (.bin .or 39 44),m 10 45]
def B2:=[m 46 7,m 47 9,m 48 10,m 49 1,o 50 (.a5 none 1 49 (k 0)),o 51 (.ld false 1 50),o 52 (.conv .u64 51),o 53 (.bin .quo 48 52),o 54 (.conv .u32 53),
 o 55 (.a5 none 1 46 47),n (.st 1 55 54)]
def o6:=[m 56 10,m 57 1,o 58 (.a5 none 1 57 (k 0)),o 59 (.ld false 1 58),o 60 (.conv .u64 59),o 61 (.bin .rem 56 60),m 8 61]
def r9:=[m 36 9,o 37 (.bin .sub 36 (k 1)),m 9 37]
def CG:=[m 62 7,o 63 (.e9 65 [62]),m 64 8,o 65 (.conv .u32 64),o 66 (.c7 66 1 [65]),o 67 (.e9 65 [66]),m 4 63,m 5 67]
def w4:=[m 68 1,m 69 6,o 70 (.bin .sub 69 (k 1)),o 71 (.a5 none 1 68 70),o 72 (.ld false 1 71),o 73 (.call 64 [72]),o 74 (.conv .u64 73),m 11 74]
def y9:=[m 75 0,m 76 11,m 77 0,o 78 (.len 77),o 79 (.bin .add 78 (k 1)),o 80 (.e9 71 [75,76,79]),m 81 1,m 82 11,m 83 6,o 84 (.call 71 [81,82,83]),
 m 12 80,m 13 84]
def ak:=[m 85 0,o 86 (.len 85),m 87 6,o 88 (.bin .sub 86 87),m 14 88]
def DR:=[m 89 14,o 90 (.bin .geq 89 (k 0))]
def de:=[m 93 7,m 94 14,m 95 12,m 96 14,m 97 14,m 98 6,o 99 (.bin .add 97 98),o 100 (.bin .add 99 (k 1)),o 101 (.fg 1 95 (some 96) (some 100)),m 102 13,
 o 103 (.e9 73 [101,102]),o 104 (.a5 none 1 93 94),n (.st 1 104 103)]
def bf:=[m 91 14,o 92 (.bin .sub 91 (k 1)),m 14 92]
def ep:=[m 105 7,o 106 (.e9 65 [105]),m 107 12,m 108 6,o 109 (.fg 1 107 none (some 108)),m 110 11,o 111 (.call 72 [109,110]),o 112 (.e9 65 [111]),
 m 4 106,m 5 112]
def l1:=(s (s (d r8 [34]) (i 35 .skip (x 0))) (s (b 1 (s (d BT [8,35,38,39,40,41,42,43,44,45]) (s (d B2 [46,47,48,49,50,51,52,53,54,55]) (d o6 [10,56,57,58,59,60,61])))) (d r9 [36,37])))
def l2:=(s (s (d DR [89]) (i 90 .skip (x 2))) (s (b 3 (d de [90,93,94,95,96,97,98,99,100,101,102,103,104])) (d bf [91,92])))
def c:=(s (d r0 [4,5]) (s (s (d r1 [15,16,17]) (i 18 (s (d r2 [0,1,18,19,20]) .ret) .skip)) (s (d r3 [18,21,22]) (s (d r4 [23,24,25,26,27,28]) (s (s (d r5 [29]) (i 30 (s (d r6 [6,30]) (s (s (d r7 [31,32,33]) (b 0 (w l1))) (s (d CG [0,1,7,8,9,35,62,63,64,65,66,67]) .ret))) .skip)) (s (d w4 [30,68,69,70,71,72,73,74]) (s (d y9 [1,75,76,77,78,79,80,81,82,83,84]) (s (s (d ak [0,85,86,87,88]) (b 2 (w l2))) (s (e ep [6,7,11,12,13,14,90,105,106,107,108,109,110,111,112]) .ret)))))))))
end LL
def LL:AFn:=⟨2,LL.c,[.tmp 4,.tmp 5],false⟩
namespace LF
def r0:=[o 4 (.b7 (.c .nil)),o 5 (.b7 (.c .nil)),o 6 (.b7 (k 0))]
def r1:=[m 10 1,o 11 (.e9 65 [10]),m 7 11]
def r2:=[m 12 7,o 13 (.len 12),o 14 (.bin .eql 13 (k 0))]
def r3:=[o 4 (.b7 (.c .nil)),o 5 (.b7 (.c .nil)),o 6 (.b7 (k 3))]
def r4:=[m 16 0,o 17 (.e9 65 [16]),m 18 7,o 19 (.call 74 [17,18]),m 15 19,o 20 (.ext 15 0),o 21 (.ext 15 1),m 8 20,m 9 21]
def r5:=[m 22 8,m 23 9,m 4 22,m 5 23,o 6 (.b7 (k 0))]
def c:=(s (d r0 [4,5,6]) (s (d r1 [1,10,11]) (s (s (d r2 [12,13]) (i 14 (s (d r3 [0,7,14]) .ret) .skip)) (s (d r4 [0,7,14,15,16,17,18,19,20,21]) (s (d r5 [8,9,22,23]) .ret)))))
end LF
def LF:AFn:=⟨2,LF.c,[.tmp 4,.tmp 5,.tmp 6],false⟩
namespace LP
def r0:=[o 2 (.b7 (.c (.int .u64 (0))))]
def r1:=[o 3 (.b7 (.c (.int .u64 (0))))]
def r2:=[m 6 0,o 7 (.len 6),o 8 (.b7 (k 0))]
def r3:=[o 9 (.bin .lss 8 7)]
def r4:=[m 10 8,o 11 (.a5 none 1 6 8),o 12 (.ld false 1 11),m 4 10,m 5 12]
def r5:=[m 13 3,m 14 5,o 15 (.conv .u64 14),m 16 4,o 17 (.bin .mul (k 32) 16),o 18 (.bin .shl 15 17),o 19 (.bin .or 13 18),m 3 19]
def r6:=[o 20 (.bin .add 8 (k 1)),m 8 20]
def r7:=[m 21 3,m 2 21]
def l1:=(s (p r3) (s (i 9 .skip (x 0)) (s (b 1 (s (d r4 [9,10,11,12]) (d r5 [4,5,13,14,15,16,17,18,19]))) (d r6 [20]))))
def c:=(s (d r0 [2]) (s (p r1) (s (s (d r2 [0]) (b 0 (w l1))) (s (d r7 [3,6,7,8,9,21]) .ret))))
end LP
def LP:AFn:=⟨1,LP.c,[.tmp 2],false⟩
namespace H3
def r0:=[o 3 (.b7 (.c (.int .u64 (0))))]
def r1:=[m 4 0,o 5 (.ld false 1 1),o 6 (.len 5),o 7 (.bin .lss 4 6)]
def r2:=[o 8 (.ld false 1 1),m 9 0,o 10 (.a5 none 1 8 9),o 11 (.ld false 1 10),o 12 (.conv .u64 11),m 3 12]
def r3:=[o 3 (.b7 (.c (.int .u64 (0))))]
def c:=(s (d r0 [3]) (s (s (d r1 [4,5,6]) (i 7 (s (d r2 [0,1,7,8,9,10,11,12]) .ret) .skip)) (s (d r3 [0,1,7]) .ret)))
end H3
def H3:AFn:=⟨2,H3.c,[.tmp 3],false⟩
namespace LM
def r0:=[o 3 (.box 3 0),o 6 (.b7 (k 0))]
def r1:=[o 9 (.pd false 77 [3]),m 7 9]
def r2:=[m 10 7,m 11 1,o 12 (.bin .sub 11 (k 1)),o 13 (.m9 10 [12]),o 14 (.bin .shl 13 (.c (.int .u64 (32)))),m 15 7,m 16 1,o 17 (.bin .sub 16 (k 2)),
 o 18 (.m9 15 [17]),o 19 (.bin .or 14 18),m 20 2,o 21 (.bin .shl 19 20),m 8 21]
def r3:=[m 22 8,m 23 7,m 24 1,o 25 (.bin .sub 24 (k 3)),o 26 (.m9 23 [25]),m 27 2,o 28 (.bin .shl 26 27),o 29 (.bin .shr 28 (.c (.int .u64 (32)))),
 o 30 (.bin .or 22 29),m 8 30]
def r4:=[m 31 8,o 32 (.bin .shr 31 (.c (.int .u64 (2)))),o 33 (.conv .i64 32),m 6 33]
def c:=(s (d r0 [0,6]) (s (d r1 [3,9]) (s (d r2 [10,11,12,13,14,15,16,17,18,19,20,21]) (s (d r3 [1,2,7,22,23,24,25,26,27,28,29,30]) (s (d r4 [8,31,32,33]) .ret)))))
end LM
def LM:AFn:=⟨3,LM.c,[.tmp 6],false⟩
namespace LJ
def r0:=[o 4 (.b7 (k 0)),o 5 (.b7 (k 0)),o 6 (.b7 (k 0)),o 7 (.b7 (k 0))]
def r1:=[o 4 (.b7 (k 1)),o 7 (.b7 (k 1))]
def r2:=[m 11 1,m 12 6,o 13 (.bin .add 11 12),o 14 (.bin .neq 13 (k 0)),m 15 14,g 16 15 true (.b7 1),g 17 15 true (.b7 7),g 18 15 true (.bin .add 16 17),
 g 19 15 true (.bin .neq 18 (k 0)),o 20 (.pick 15 19 (.c (.bool false)))]
def r3:=[m 21 0,m 22 4,o 23 (.bin .add 21 22),m 24 1,m 25 6,o 26 (.bin .add 24 25),o 27 (.bin .quo 23 26),m 8 27]
def r4:=[m 28 8,m 29 0,m 30 5,o 31 (.bin .add 29 30),m 32 1,m 33 7,o 34 (.bin .add 32 33),o 35 (.bin .quo 31 34),o 36 (.bin .neq 28 35),m 37 36,
 g 38 37 false (.b7 8),g 39 37 false (.bin .gtr 38 (k 2147483647)),o 40 (.pick 37 (.c (.bool true)) 39)]
def r5:=[m 41 4,m 42 8,m 43 6,o 44 (.bin .mul 42 43),o 45 (.bin .sub 41 44),m 46 5,m 47 8,m 48 7,o 49 (.bin .mul 47 48),o 50 (.bin .sub 46 49),m 9 45,m 10 50]
def r6:=[m 51 9,m 52 9,o 53 (.un .neg 52),m 54 10,m 55 10,o 56 (.un .neg 55),o 57 (.mm true [51,53,54,56]),o 58 (.bin .gtr 57 (k 2147483647))]
def r7:=[m 59 6,m 60 7,m 61 9,m 62 10,m 4 59,m 5 60,m 6 61,m 7 62]
def r8:=[m 63 1,m 64 0,m 65 8,m 66 1,o 67 (.bin .mul 65 66),o 68 (.bin .sub 64 67),m 0 63,m 1 68]
def r9:=[m 69 4,m 70 5,m 71 6,m 72 7,m 4 69,m 5 70,m 6 71,m 7 72]
def l1:=(s (s (d r2 [11,12,13,14,15,16,17,18,19]) (i 20 .skip (x 0))) (b 1 (s (d r3 [20,21,22,23,24,25,26,27]) (s (s (d r4 [28,29,30,31,32,33,34,35,36,37,38,39]) (i 40 (x 0) .skip)) (s (d r5 [40,41,42,43,44,45,46,47,48,49,50]) (s (s (d r6 [51,52,53,54,55,56,57]) (i 58 (x 0) .skip)) (s (d r7 [9,10,58,59,60,61,62]) (d r8 [8,63,64,65,66,67,68]))))))))
def c:=(s (d r0 [4,7]) (s (p r1) (s (b 0 (w l1)) (s (d r9 [0,1,8,9,10,20,40,58,69,70,71,72]) .ret))))
end LJ
def LJ:AFn:=⟨2,LJ.c,[.tmp 4,.tmp 5,.tmp 6,.tmp 7],false⟩
namespace LK
def r0:=[o 8 (.b7 (.c .nil))]
def r1:=[m 14 0,o 15 (.len 14),o 16 (.mk 16 1 4 [(.int .u32 (0))] 15 15),m 9 16]
def r2:=[o 10 (.b7 (k 0))]
def r3:=[m 17 0,o 18 (.len 17),o 19 (.b7 (k 0))]
def r4:=[o 20 (.bin .lss 19 18)]
def r5:=[m 21 19,o 22 (.a5 none 1 17 19),o 23 (.ld false 1 22),m 11 21,m 12 23]
def r6:=[m 24 2,m 25 12,o 26 (.conv .i64 25),o 27 (.bin .mul 24 26),m 28 10,o 29 (.bin .add 27 28),m 13 29]
def r7:=[m 30 11,m 31 1,o 32 (.len 31),o 33 (.bin .lss 30 32)]
def r8:=[m 34 13,m 35 3,m 36 1,m 37 11,o 38 (.a5 none 1 36 37),o 39 (.ld false 1 38),o 40 (.conv .i64 39),o 41 (.bin .mul 35 40),o 42 (.bin .add 34 41),
 m 13 42]
def r9:=[m 43 9,m 44 11,m 45 13,o 46 (.conv .u32 45),o 47 (.a5 none 1 43 44),n (.st 1 47 46)]
def BT:=[m 48 13,o 49 (.bin .shr 48 (.c (.int .u64 (32)))),m 10 49]
def B2:=[o 50 (.bin .add 19 (k 1)),m 19 50]
def o6:=[m 51 9,o 52 (.e9 65 [51]),m 8 52]
def l1:=(s (p r4) (s (i 20 .skip (x 0)) (s (b 1 (s (d r5 [20,21,22,23]) (s (d r6 [10,12,24,25,26,27,28,29]) (s (s (d r7 [30,31,32]) (i 33 (d r8 [33,34,35,36,37,38,39,40,41,42]) .skip)) (s (d r9 [11,33,43,44,45,46,47]) (d BT [13,48,49])))))) (d B2 [50]))))
def c:=(s (d r0 [8]) (s (d r1 [14,15,16]) (s (p r2) (s (s (d r3 [0]) (b 0 (w l1))) (s (d o6 [1,2,3,9,10,17,18,19,20,51,52]) .ret)))))
end LK
def LK:AFn:=⟨4,LK.c,[.tmp 8],false⟩
namespace LO
def r0:=[o 4 (.b7 (.c .nil)),o 5 (.b7 (.c .nil))]
def r1:=[m 14 0,o 15 (.len 14),m 6 15]
def r2:=[m 16 0,m 17 6,o 18 (.bin .sub 17 (k 1)),o 19 (.a5 none 1 16 18),o 20 (.ld false 1 19),o 21 (.call 64 [20]),o 22 (.conv .u64 21),m 7 22]
def r3:=[m 24 0,m 25 6,m 26 7,o 27 (.call 78 [24,25,26]),m 28 1,m 29 6,m 30 7,o 31 (.call 78 [28,29,30]),o 32 (.call 79 [27,31]),m 23 32,o 33 (.ext 23 0),
 o 34 (.ext 23 1),o 35 (.ext 23 2),o 36 (.ext 23 3),m 8 33,m 9 34,m 10 35,m 11 36]
def r4:=[m 37 9,o 38 (.bin .eql 37 (k 0))]
def r5:=[m 40 0,m 41 1,o 42 (.call 74 [40,41]),m 39 42,o 43 (.ext 39 0),o 44 (.ext 39 1),m 12 43,m 13 44]
def r6:=[m 45 1,m 46 13,m 4 45,m 5 46]
def r7:=[m 47 0,m 48 1,m 49 8,m 50 9,o 51 (.call 80 [47,48,49,50]),m 52 0,m 53 1,m 54 10,m 55 11,o 56 (.call 80 [52,53,54,55]),m 4 51,m 5 56]
def c:=(s (d r0 [4,5]) (s (d r1 [14,15]) (s (d r2 [16,17,18,19,20,21,22]) (s (d r3 [6,7,23,24,25,26,27,28,29,30,31,32,33,34,35,36]) (s (s (d r4 [37]) (i 38 (s (d r5 [0,8,9,10,11,12,38,39,40,41,42,43,44]) (s (d r6 [1,13,45,46]) .ret)) .skip)) (s (d r7 [0,1,8,9,10,11,38,47,48,49,50,51,52,53,54,55,56]) .ret))))))
end LO
def LO:AFn:=⟨2,LO.c,[.tmp 4,.tmp 5],false⟩
namespace GL
def r0:=[o 4 (.b7 (.c .nil))]
def r1:=[m 11 0,o 12 (.call 66 [11]),m 13 1,o 14 (.call 66 [13]),m 5 12,m 6 14]
def r2:=[m 15 5,m 16 6,o 17 (.call 67 [15,16]),o 18 (.bin .lss 17 (k 0))]
def r3:=[m 19 6,m 20 5,m 5 19,m 6 20]
def r4:=[m 21 6,o 22 (.len 21),o 23 (.bin .gtr 22 (k 2))]
def r5:=[m 25 5,m 26 6,o 27 (.call 81 [25,26]),m 24 27,o 28 (.ext 24 0),o 29 (.ext 24 1),m 5 28,m 6 29]
def r6:=[m 30 6,o 31 (.len 30),o 32 (.bin .eql 31 (k 0))]
def r7:=[m 33 5,m 4 33]
def r8:=[m 35 5,m 36 6,o 37 (.call 74 [35,36]),m 34 37,o 38 (.ext 34 0),o 39 (.ext 34 1),m 7 38,m 8 39]
def r9:=[m 40 6,o 41 (.call 76 [40]),m 42 8,o 43 (.call 76 [42]),m 9 41,m 10 43]
def BT:=[m 44 10,o 45 (.bin .neq 44 (.c (.int .u64 (0))))]
def B2:=[m 46 10,m 47 9,m 48 10,o 49 (.bin .rem 47 48),m 9 46,m 10 49]
def o6:=[m 50 9,o 51 (.conv .u32 50),m 52 9,o 53 (.bin .shr 52 (.c (.int .u64 (32)))),o 54 (.conv .u32 53),o 55 (.c7 55 1 [51,54]),o 56 (.e9 65 [55]),
 m 4 56]
def l1:=(s (s (d r4 [18,21,22]) (i 23 .skip (x 0))) (b 1 (d r5 [23,24,25,26,27,28,29])))
def l2:=(s (s (d BT [44]) (i 45 .skip (x 2))) (b 3 (e B2 [45,46,47,48,49])))
def c:=(s (d r0 [4]) (s (d r1 [0,1,11,12,13,14]) (s (s (d r2 [15,16,17]) (i 18 (d r3 [18,19,20]) .skip)) (s (b 0 (w l1)) (s (s (d r6 [23,30,31]) (i 32 (s (d r7 [5,6,32,33]) .ret) .skip)) (s (d r8 [5,7,32,34,35,36,37,38,39]) (s (d r9 [6,8,40,41,42,43]) (s (b 2 (w l2)) (s (d o6 [9,10,45,50,51,52,53,54,55,56]) .ret)))))))))
end GL
def GL:AFn:=⟨2,GL.c,[.tmp 4],false⟩
structure c8 (L:Lib):Prop where
 KJ:L 58=some F.KJ
 KL:L 59=some F.KL
 KH:L 60=some F.KH
 KI:L 61=some F.KI
 HH:L 62=some F.HH
 LA:L 63=some F.LA
 K9:L 64=some F.K9
 FI:L 65=some F.FI
 LI:L 66=some F.LI
 LE:L 67=some F.LE
 LD:L 68=some F.LD
 LH:L 69=some F.LH
 LG:L 70=some F.LG
 I9:L 71=some F.I9
 LN:L 72=some F.LN
 FO:L 73=some F.FO
 LL:L 74=some F.LL
 LF:L 75=some F.LF
 LP:L 76=some F.LP
 H3:L 77=some F.H3
 LM:L 78=some F.LM
 LJ:L 79=some F.LJ
 LK:L 80=some F.LK
 LO:L 81=some F.LO
 GL:L 82=some F.GL
end Go.c5.F
