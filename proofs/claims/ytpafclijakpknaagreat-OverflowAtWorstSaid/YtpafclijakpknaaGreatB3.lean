/-
  What an abstract value says of a value in memory; when it stays said.
-/
import Derived.Test.YtpafclijakpknaaGreatB2
import Derived.Below
import Derived.Laws.CopyRow
import Derived.Laws.Cells
import Derived.Laws.MakeOwn
import Derived.Laws.AppendOwn
import Derived.Deep.AppendSrc
import Derived.Deep.Draws
import Derived.ArgAppend
import Derived.Laws.StructEq
import Derived.ChangeKeysEq
set_option linter.unusedSimpArgs false
set_option linter.unusedVariables false
set_option linter.unnecessarySimpa false
namespace Go.b8
open Go.RowKit
theorem MO (b o n:Nat):(⟨b,o,none⟩:Addr).add n=⟨b,o+n,none⟩:=by
 unfold Addr.add;split<;>simp_all
inductive Rd (w:World) (R:Bool->Nat->Prop):AV->Value->Prop
 | int (k:IntKind) (n:Int):Rd w R (.int k n) (.int k n)
 | bool (b:Bool):Rd w R (.bool b) (.bool b)
 | str (s:ByteArray):Rd w R (.dc (.string s)) (.string s)
 | om:Rd w R (.dc .nilFunc) .nilFunc
 | my (l:Bool) (a:Option Addr) (cap:Nat):Rd w R (.sl l []) (.slice a 0 cap)
 | emp (b:Bool) (a:Option Addr) (cap:Nat) (h:a.isNone=b):Rd w R (.dc (.bool b)) (.slice a 0 cap)
 | sl (l:Bool) (es:List (List AV)) (b o a7 cap:Nat) (u:Nat->Nat->Value) (m7:es≠[]) (hp:0<a7) (hR:R l b) (da:es.length<=cap) (hz : ∀ e∈es,e.length=a7)
   (hc : ∀ i e,es[i]? = some e -> ∀ j c,e[j]? = some c->w.cell? ⟨b,o+(i*a7+j),none⟩=some (u i j))
   (hr : ∀ i e,es[i]? = some e -> ∀ j c,e[j]? = some c->Rd w R c (u i j)) :
   Rd w R (.sl l es) (.slice (some ⟨b,o,none⟩) es.length cap)
theorem Rd.one {w:World} {R:Bool->Nat->Prop} {a:AV} {v:Value} (h:Rd w R a v):v.oneCell'=true:=by
 cases h<;>rfl
theorem bB {w:World} {a:Addr} {u:Value} (h:w.cell? a=some u):a.block<w.heap.size:=by
 unfold World.cell? at h;split at h
 ·rename_i hh
  exact (Array.getElem?_eq_some_iff.1 hh).1
 ·cases h
theorem kF {es:List (List AV)} {a7:Nat} (m7:es≠[]) (hp:0<a7) (hz : ∀ e∈es,e.length=a7) : ∃ e c,es[0]? = some e/\e[0]? = some c:=by
 cases es with
 | nil=>exact absurd rfl m7
 | cons e r =>
  have:=hz e (by simp)
  cases e with
  | nil=>simp at this;omega
  | cons c q=>exact ⟨c::q,c,rfl,rfl⟩
theorem Rd.mono {w w':World} {R R':Bool->Nat->Prop} (hR : ∀ l b,b<w.heap.size->R l b->R' l b)
  (hw : ∀ l b,b<w.heap.size->R l b->w'.heap[b]? = w.heap[b]?) {a:AV} {v:Value} (h:Rd w R a v):Rd w' R' a v:=by
 induction h with
 | int k n=>exact .int k n
 | bool b=>exact .bool b
 | str s=>exact .str s
 | om=>exact .om
 | my l a cap=>exact .my l a cap
 | emp b a cap h=>exact .emp b a cap h
 | sl l es b o a7 cap u m7 hp h1 da hz hc hr ih =>
  obtain ⟨e,c,he,jb⟩:=kF m7 hp hz;have hb:b<w.heap.size:=bB (hc 0 e he 0 c jb);refine .sl l es b o a7 cap u m7 hp (hR l b hb h1) da hz (λ i e he j c Ia => ?_) ih;rw[World.cell?_of_block (w:=w) (hw l b hb h1)];exact hc i e he j c Ia
structure M where
 ν:Nat->Nat->Option Nat
 own:BD
 w:World
section
variable (B:Nat) (S:Nat->Prop)
def safe (m:M) (l:Bool) (b:Nat):Prop :=
 (S b/\b<B)\/(B<=b /\ ∀ s t,(m.own.get s t).isSome=true->m.ν s t≠some b)\/(l=true/\b<B)
inductive CC (m:M):AV->Value->Prop
 | rd {a:AV} {v:Value} (h:Rd m.w (safe B S m) a v):CC m a v
 | nil:CC m .nil (.slice none 0 0)
 | row (s t z off len:Nat) (a:Option Addr) (cap:Nat) (ht:t<m.own.j5 s) (ff:0<z) (ke:len<=cap) (ha:0<len->a.isSome=true)
   (h : ∀ b,m.own.get s t=some b->b.a7=z/\((len=0/\cap=0) \/ ∃ g arr e,m.ν s t=some g/\a=some ⟨g,off*z,none⟩/\m.w.heap[g]? = some (.cells arr e (0,0))/\(off+cap)*z<=arr.size)) :
   CC m (.row s t z off len) (.slice a len cap)
 | ptr (s t i j:Nat) (a:Addr) (ht:t<m.own.j5 s) (h : ∀ b,m.own.get s t=some b -> ∃ g,m.ν s t=some g/\a=⟨g,i*b.a7+j,none⟩):CC m (.ptr s t i j) (.pointer (some a))
 | y9 (cs:List AV) (b o:Nat) (u:Nat->Value) (l:Bool) (hR:cs≠[]->safe B S m l b) (hc : ∀ j c,cs[j]? = some c->m.w.cell? ⟨b,o+j,none⟩=some (u j)) (hr : ∀ j c,cs[j]? = some c->Rd m.w (safe B S m) c (u j)) :
   CC m (.y9 cs) (.pointer (some ⟨b,o,none⟩))
def CL (m:M) (cs:List AV) (vs:List Value):Prop:=cs.length=vs.length /\ ∀ (j:Nat) (c:AV) (v:Value),cs[j]? = some c->vs[j]? = some v->CC B S m c v
inductive CA (m:M):AV->Value->Prop
 | one {a:AV} {v:Value} (h:CC B S m a v):CA m a v
 | agg (cs:List AV) (vs:List Value) (h:CL B S m cs vs):CA m (.agg cs) (.agg vs.toArray)
 | fn (p:Bool) (f g:Nat) (cs:List AV) (vs:List Value) (hp:p=true->cs=[]) (h:CL B S m cs vs):CA m (.fn p f g cs) (.func (.func g) #[] vs.toArray)
 | yf (f g:Nat) (cs:List AV) (vs:List Value) (hp:cs≠[]) (h:CL B S m cs vs):CA m (.fn true f g cs) (.func (.func g) #[.agg vs.toArray] #[])
inductive CV (m:M):AV->Value->Prop
 | any (v:Value):CV m .any v
 | ca {a:AV} {v:Value} (h:CA B S m a v):CV m a v
 | g8 (as:List AV) (vs:List Value) (hl:as.length=vs.length) (h : ∀ (j:Nat) (c:AV) (v:Value),as[j]? = some c->vs[j]? = some v->CA B S m c v):CV m (.g8 as) (.tuple vs.toArray)
def Ah7 (m:M) (s t:Nat) (b:HU):Prop :=
 (∀ e∈b.es,e.length=b.a7)/\match m.ν s t with
  | none=>b.es=[]
  | some g=>B<=g /\ ∃ arr e,m.w.heap[g]? = some (.cells arr e (0,0)) /\
    ∀ i cs,b.es[i]? = some cs -> ∀ j c,cs[j]? = some c -> ∃ u,arr[i*b.a7+j]? = some u/\CC B S m c u
structure D8 (w0:World) (m:M):Prop where
 below:Below B w0 m.w
 size:B<=m.w.heap.size
 fresh : ∀ s t,m.own.j5 s<=t->m.own.get s t=none
 c9 : ∀ s t b,m.own.get s t=some b->Ah7 B S m s t b
 inj : ∀ s t s' t' b b' g,m.own.get s t=some b->m.own.get s' t'=some b'->m.ν s t=some g->m.ν s' t'=some g->s=s'/\t=t'
structure HC (m m':M):Prop where
 size:m.w.heap.size<=m'.w.heap.size
 An : ∀ b,b<m.w.heap.size->safe B S m true b->m'.w.heap[b]? = m.w.heap[b]?
 En : ∀ l b,b<m.w.heap.size->safe B S m l b->safe B S m' l b
 j5 : ∀ s,m.own.j5 s<=m'.own.j5 s
 name : ∀ s t b',t<m.own.j5 s->m'.own.get s t=some b' -> ∃ b,m.own.get s t=some b/\b'.a7=b.a7/\m'.ν s t=m.ν s t /\
   ∀ g arr e,m.ν s t=some g->m.w.heap[g]? = some (.cells arr e (0,0)) -> ∃ w3,m'.w.heap[g]? = some (.cells w3 e (0,0))/\w3.size=arr.size
end
section
variable {B:Nat} {S:Nat->Prop}
theorem zB {m:M} {l:Bool} {b:Nat} (h:safe B S m l b):safe B S m true b:=by
 rcases h with h|h|⟨_,h⟩
 ·exact .inl h
 ·exact .inr (.inl h)
 ·exact .inr (.inr ⟨rfl,h⟩)
theorem HC.rd {m m':M} (h:HC B S m m') {a:AV} {v:Value} (hr:Rd m.w (safe B S m) a v):Rd m'.w (safe B S m') a v :=
 hr.mono h.En (λ_ b hb hs=>h.An b hb (zB hs))
theorem HC.cc {m m':M} (h:HC B S m m') {a:AV} {v:Value} (hc:CC B S m a v):CC B S m' a v:=by
 cases hc with
 | rd hr=>exact .rd (h.rd hr)
 | nil=>exact .nil
 | row s t z off len a cap ht ff ke ha hb =>
  refine .row s t z off len a cap (Nat.lt_of_lt_of_le ht (h.j5 s)) ff ke ha λ b' m4 => ?_
  obtain ⟨b,h1,h2,h3,h4⟩:=h.name s t b' ht m4;obtain ⟨hz,fj⟩:=hb b h1;refine ⟨h2.trans hz,?_⟩;rcases fj with h0|⟨g,arr,e,hg,nc,hh,hle⟩
  ·exact .inl h0
  ·obtain ⟨w3,Tf,xj⟩:=h4 g arr e hg hh
   exact .inr ⟨g,w3,e,h3.trans hg,nc,Tf,xj ▸ hle⟩
 | ptr s t i j a ht hb =>
  refine .ptr s t i j a (Nat.lt_of_lt_of_le ht (h.j5 s)) λ b' m4 => ?_
  obtain ⟨b,h1,h2,h3,_⟩:=h.name s t b' ht m4;obtain ⟨g,hg,nc⟩:=hb b h1;exact ⟨g,h3.trans hg,h2 ▸ nc⟩
 | y9 cs b o u l hR hc hr =>
  have l7:cs≠[]->b<m.w.heap.size:=λ m7=>by
   cases cs with
   | nil=>exact absurd rfl m7
   | cons c r=>exact bB (hc 0 c rfl)
  refine .y9 cs b o u l (λ m7=>h.En l b (l7 m7) (hR m7)) (λ j c hj => ?_) (λ j c hj=>h.rd (hr j c hj));have m7:cs≠[]:=λ e=>by subst e;simp at hj
  rw[World.cell?_of_block (w:=m.w) (h.An b (l7 m7) (zB (hR m7)))];exact hc j c hj
theorem HC.cl {m m':M} (h:HC B S m m') {cs:List AV} {vs:List Value} (hc:CL B S m cs vs):CL B S m' cs vs :=
 ⟨hc.1,λ j c v h1 h2=>h.cc (hc.2 j c v h1 h2)⟩
theorem HC.ca {m m':M} (h:HC B S m m') {a:AV} {v:Value} (hc:CA B S m a v):CA B S m' a v:=by
 cases hc with
 | one hc=>exact .one (h.cc hc)
 | agg cs vs hc=>exact .agg cs vs (h.cl hc)
 | fn p f g cs vs hp hc=>exact .fn p f g cs vs hp (h.cl hc)
 | yf f g cs vs hp hc=>exact .yf f g cs vs hp (h.cl hc)
theorem HC.cv {m m':M} (h:HC B S m m') {a:AV} {v:Value} (hc:CV B S m a v):CV B S m' a v:=by
 cases hc with
 | any v=>exact .any v
 | ca hc=>exact .ca (h.ca hc)
 | g8 as vs hl hc=>exact .g8 as vs hl λ j c v h1 h2=>h.ca (hc j c v h1 h2)
theorem HC.refl (m:M):HC B S m m :=
 ⟨Nat.le_refl _,λ_ _ _=>rfl,λ_ _ _ h=>h,λ_=>Nat.le_refl _,λ_ _ b' _ h=>⟨b',h,rfl,rfl,λ_ arr _ _ h=>⟨arr,h,rfl⟩⟩⟩
theorem HC.trans {m m' m'':M} (h:HC B S m m') (k:HC B S m' m''):HC B S m m'' where
 size:=Nat.le_trans h.size k.size
 An b hb hs:=(k.An b (Nat.lt_of_lt_of_le hb h.size) (h.En true b hb hs)).trans (h.An b hb hs)
 En l b hb hs:=k.En l b (Nat.lt_of_lt_of_le hb h.size) (h.En l b hb hs)
 j5 s:=Nat.le_trans (h.j5 s) (k.j5 s)
 name s t b'' ht Tn:=by
  obtain ⟨b',h1,h2,h3,h4⟩:=k.name s t b'' (Nat.lt_of_lt_of_le ht (h.j5 s)) Tn;obtain ⟨b,g1,g2,g3,g4⟩:=h.name s t b' ht h1;refine ⟨b,g1,h2.trans g2,h3.trans g3,λ g arr e hg ha => ?_⟩;obtain ⟨w3,Tf,xj⟩:=g4 g arr e hg ha;obtain ⟨Jo,Tg,Wl⟩:=h4 g w3 e (g3.trans hg) Tf;exact ⟨Jo,Tg,Wl.trans xj⟩
theorem CC.one {m:M} {a:AV} {v:Value} (h:CC B S m a v):v.oneCell'=true:=by
 cases h with
 | rd h=>exact h.one
 | _=>rfl
end
end Go.b8
namespace Go.b8
open Go.RowKit
section
variable {B:Nat} {S:Nat->Prop} {w0:World}
def live (m:M) (s t:Nat):Prop := ∃ b,m.own.get s t=some b
theorem D8.ge {m:M} (h:D8 B S w0 m) {s t g:Nat} (hl:live m s t) (hg:m.ν s t=some g):B<=g /\ ∃ arr e,m.w.heap[g]? = some (.cells arr e (0,0)):=by
 obtain ⟨b,hb⟩:=hl;obtain ⟨_,h2⟩:=h.c9 s t b hb;rw[hg]at h2;obtain ⟨h3,arr,e,h4,_⟩:=h2;exact ⟨h3,arr,e,h4⟩
theorem bW {m m':M} (hm:D8 B S w0 m) (hs:m.w.heap.size<=m'.w.heap.size)
  (hk : ∀ b,b<m.w.heap.size->(∀ s t,live m s t->m.ν s t≠some b)->m'.w.heap[b]? = m.w.heap[b]?) (Fo : ∀ s,m.own.j5 s<=m'.own.j5 s)
  (Ls : ∀ s t b',t<m.own.j5 s->m'.own.get s t=some b' -> ∃ b,m.own.get s t=some b/\b'.a7=b.a7/\m'.ν s t=m.ν s t /\
   ∀ g arr e,m.ν s t=some g->m.w.heap[g]? = some (.cells arr e (0,0)) -> ∃ w3,m'.w.heap[g]? = some (.cells w3 e (0,0))/\w3.size=arr.size)
  (me : ∀ s t g,live m' s t->m'.ν s t=some g->g<m.w.heap.size -> ∃ s0 t0,live m s0 t0/\m.ν s0 t0=some g):HC B S m m':=by
 have eu : ∀ b,safe B S m true b -> ∀ s t,live m s t->m.ν s t≠some b:=by
  intro b hb s t hl hg;have ud:=(hm.ge hl hg).1;rcases hb with ⟨_,h⟩|⟨_,h⟩|⟨_,h⟩
  ·omega
  ·obtain ⟨b',m4⟩:=hl
   exact h s t (by simp [m4]) hg
  ·omega
 refine ⟨hs,λ b hb zx=>hk b hb (eu b zx),λ l b hb zx => ?_,Fo,Ls⟩;rcases zx with h|⟨h,hn⟩|h
 ·exact .inl h
 ·refine .inr (.inl ⟨h,λ s t hl hg => ?_⟩)
  obtain ⟨b',m4⟩:=Option.isSome_iff_exists.1 hl;obtain ⟨s0,t0,⟨b0,jx⟩,Fv⟩:=me s t b ⟨b',m4⟩ hg hb;exact hn s0 t0 (by simp [jx]) Fv
 ·exact .inr (.inr h)
theorem grow {m:M} (hm:D8 B S w0 m) {w':World} (hb:Below m.w.heap.size m.w w') :
  D8 B S w0 ⟨m.ν,m.own,w'⟩/\HC B S m ⟨m.ν,m.own,w'⟩:=by
 have he:HC B S m ⟨m.ν,m.own,w'⟩:=by
  refine bW hm hb.size (λ b m4 _=>hb.block b m4) (λ_=>Nat.le_refl _) (λ s t b' _ m4=>⟨b',m4,rfl,rfl,λ g arr e hg ha=>⟨arr,?_,rfl⟩⟩) (λ s t g hl hg _=>⟨s,t,hl,hg⟩);have:g<m.w.heap.size:=(Array.getElem?_eq_some_iff.1 ha).1
  exact (hb.block g this).trans ha
 refine ⟨⟨hm.below.trans (hb.mono hm.size),Nat.le_trans hm.size hb.size,hm.fresh,λ s t b hg => ?_,hm.inj⟩,he⟩;obtain ⟨h1,h2⟩:=hm.c9 s t b hg;refine ⟨h1,?_⟩;show match m.ν s t with|none=>_|some g=>_
 cases hν:m.ν s t with
 | none=>rw[hν]at h2;exact h2
 | some g =>
  rw[hν]at h2;obtain ⟨h3,arr,e,h4,h5⟩:=h2;refine ⟨h3,arr,e,?_,λ i cs hi j c hj => ?_⟩
  ·exact (hb.block g (Array.getElem?_eq_some_iff.1 h4).1).trans h4
  ·obtain ⟨u,hu,aj⟩:=h5 i cs hi j c hj
   exact ⟨u,hu,he.cc aj⟩
theorem K4 (o:BD) (s s' t':Nat) (b:HU):(o.put s ((o s).new b)).get s' t'=if s'=s/\t'=o.j5 s then some b else o.get s' t':=by
 unfold BD.get BD.put E4.new BD.j5;by_cases h:s'=s
 ·subst h
  by_cases h2:t'=(o s').j5<;>simp [h2]
 ·simp [h]
theorem QL (o:BD) (s s':Nat) (b:HU):(o.put s ((o s).new b)).j5 s'=if s'=s then o.j5 s+1 else o.j5 s':=by
 unfold BD.j5 BD.put E4.new;by_cases h:s'=s<;>simp [h]
theorem kK (o:BD) (s t s' t':Nat) (b:Option HU):(o.put s ((o s).w6 t b)).get s' t'=if s'=s/\t'=t then b else o.get s' t':=by
 unfold BD.get BD.put E4.w6;by_cases h:s'=s
 ·subst h
  by_cases h2:t'=t<;>simp [h2]
 ·simp [h]
theorem Aby (o:BD) (s t s':Nat) (b:Option HU):(o.put s ((o s).w6 t b)).j5 s'=o.j5 s':=by
 unfold BD.j5 BD.put E4.w6;by_cases h:s'=s<;>simp [h]
def j6 (m:M) (s:Nat) (g:Option Nat):Nat->Nat->Option Nat:=λ s' t'=>if s'=s/\t'=m.own.j5 s then g else m.ν s' t'
theorem pX {m:M} (hm:D8 B S w0 m) (s:Nat) : ¬ live m s (m.own.j5 s):=λ⟨b,hb⟩=>by
 rw[hm.fresh s _ (Nat.le_refl _)]at hb;cases hb
theorem sV {m:M} (hm:D8 B S w0 m) (s:Nat) (b:HU) (arr:Array Value) (e:TypeId) (hz : ∀ x∈b.es,x.length=b.a7)
  (hc : ∀ i cs,b.es[i]? = some cs -> ∀ j c,cs[j]? = some c -> ∃ u,arr[i*b.a7+j]? = some u/\CC B S m c u) :
  D8 B S w0 ⟨j6 m s (some m.w.heap.size),m.own.put s ((m.own s).new b),m.w.alloc (.cells arr e)⟩ /\
  HC B S m ⟨j6 m s (some m.w.heap.size),m.own.put s ((m.own s).new b),m.w.alloc (.cells arr e)⟩:=by
 have z8:(m.w.alloc (.cells arr e)).heap.size=m.w.heap.size+1:=by simp
 have hν : ∀ s' t',live m s' t'->j6 m s (some m.w.heap.size) s' t'=m.ν s' t':=λ s' t' hl=>by
  unfold j6;rw[if_neg];rintro ⟨rfl,rfl⟩
  exact pX hm _ hl
 have he:HC B S m ⟨j6 m s (some m.w.heap.size),m.own.put s ((m.own s).new b),m.w.alloc (.cells arr e)⟩:=by
  refine bW hm (by rw[z8];omega) (λ k hk _=>Below.heap_alloc _ _ _ hk) (λ s' => ?_) (λ s' t' b' ht m4 => ?_) (λ s' t' g hl hg l7 => ?_)
  ·rw[QL];split
   ·rename_i h;subst h;omega
   ·exact Nat.le_refl _
  ·rw[K4]at m4
   rw[if_neg (by rintro ⟨rfl,rfl⟩;omega)]at m4;refine ⟨b',m4,rfl,hν s' t' ⟨b',m4⟩,λ g ar e' hg ha=>⟨ar,?_,rfl⟩⟩;exact (Below.heap_alloc _ _ _ (Array.getElem?_eq_some_iff.1 ha).1).trans ha
  ·obtain ⟨b',m4⟩:=hl
   have z7:=m4;rw[K4]at m4;by_cases h:s'=s/\t'=m.own.j5 s
   ·simp only[j6,if_pos h,Option.some.injEq]at hg
    omega
   ·rw[if_neg h]at m4
    exact ⟨s',t',⟨b',m4⟩,by rw[<-hν s' t' ⟨b',m4⟩];exact hg⟩
 refine ⟨⟨hm.below.alloc hm.size _,by rw[z8];have:=hm.size;omega,λ s' t' ht => ?_,λ s' t' b' m4 => ?_,λ s1 t1 s2 t2 b1 b2 g h1 h2 g1 g2 => ?_⟩,he⟩
 ·rw[QL]at ht
  rw[K4,if_neg]
  ·refine hm.fresh s' t' ?_
   split at ht
   ·rename_i h;subst h;omega
   ·exact ht
  ·rintro ⟨rfl,rfl⟩
   simp at ht;omega
 ·rw[K4]at m4
  by_cases h:s'=s/\t'=m.own.j5 s
  ·rw[if_pos h]at m4
   obtain rfl:b=b':=by simpa using m4
   refine ⟨hz,?_⟩;show match j6 m s (some m.w.heap.size) s' t' with|none=>_|some g=>_
   rw[show j6 m s (some m.w.heap.size) s' t'=some m.w.heap.size by simp [j6,h]];refine ⟨hm.size,arr,e,heap_alloc_new _ _,λ i cs hi j c hj => ?_⟩;obtain ⟨u,hu,aj⟩:=hc i cs hi j c hj;exact ⟨u,hu,he.cc aj⟩
  ·rw[if_neg h]at m4
   obtain ⟨h1,h2⟩:=hm.c9 s' t' b' m4;refine ⟨h1,?_⟩;show match j6 m s (some m.w.heap.size) s' t' with|none=>_|some g=>_
   rw[hν s' t' ⟨b',m4⟩];cases hv:m.ν s' t' with
   | none=>rw[hv]at h2;exact h2
   | some g =>
    rw[hv]at h2;obtain ⟨h3,ar,e',h4,h5⟩:=h2;refine ⟨h3,ar,e',(Below.heap_alloc _ _ _ (Array.getElem?_eq_some_iff.1 h4).1).trans h4,λ i cs hi j c hj => ?_⟩;obtain ⟨u,hu,aj⟩:=h5 i cs hi j c hj;exact ⟨u,hu,he.cc aj⟩
 ·rw[K4]at h1 h2
  have lt : ∀ s' t' b',m.own.get s' t'=some b'->j6 m s (some m.w.heap.size) s' t'=some g->g<m.w.heap.size:=λ s' t' b' hb hg=>by
   rw[hν s' t' ⟨b',hb⟩]at hg;obtain ⟨_,ar,e',h4⟩:=hm.ge ⟨b',hb⟩ hg;exact (Array.getElem?_eq_some_iff.1 h4).1
  have at_ : ∀ s' t',s'=s/\t'=m.own.j5 s->j6 m s (some m.w.heap.size) s' t'=some g->g=m.w.heap.size:=λ s' t' h hg=>by
   simp only[j6,if_pos h,Option.some.injEq]at hg;exact hg.symm
  by_cases p1:s1=s/\t1=m.own.j5 s<;>by_cases p2:s2=s/\t2=m.own.j5 s
  ·exact ⟨p1.1.trans p2.1.symm,p1.2.trans p2.2.symm⟩
  ·rw[if_neg p2]at h2
   have:=lt s2 t2 b2 h2 g2
   have:=at_ s1 t1 p1 g1
   omega
  ·rw[if_neg p1]at h1
   have:=lt s1 t1 b1 h1 g1
   have:=at_ s2 t2 p2 g2
   omega
  ·rw[if_neg p1]at h1
   rw[if_neg p2]at h2;exact hm.inj s1 t1 s2 t2 b1 b2 g h1 h2 (by rw[<-hν s1 t1 ⟨b1,h1⟩];exact g1) (by rw[<-hν s2 t2 ⟨b2,h2⟩];exact g2)
theorem Ag0 {m:M} (hm:D8 B S w0 m) (s a7:Nat) :
  D8 B S w0 ⟨j6 m s none,m.own.put s ((m.own s).new ⟨a7,[]⟩),m.w⟩/\HC B S m ⟨j6 m s none,m.own.put s ((m.own s).new ⟨a7,[]⟩),m.w⟩:=by
 have hν : ∀ s' t',live m s' t'->j6 m s none s' t'=m.ν s' t':=λ s' t' hl=>by
  unfold j6;rw[if_neg];rintro ⟨rfl,rfl⟩
  exact pX hm _ hl
 have he:HC B S m ⟨j6 m s none,m.own.put s ((m.own s).new ⟨a7,[]⟩),m.w⟩:=by
  refine bW hm (Nat.le_refl _) (λ k hk _=>rfl) (λ s' => ?_) (λ s' t' b' ht m4 => ?_) (λ s' t' g hl hg l7 => ?_)
  ·rw[QL];split
   ·rename_i h;subst h;omega
   ·exact Nat.le_refl _
  ·rw[K4]at m4
   rw[if_neg (by rintro ⟨rfl,rfl⟩;omega)]at m4;exact ⟨b',m4,rfl,hν s' t' ⟨b',m4⟩,λ g ar e' hg ha=>⟨ar,ha,rfl⟩⟩
  ·obtain ⟨b',m4⟩:=hl
   rw[K4]at m4;by_cases h:s'=s/\t'=m.own.j5 s
   ·simp [j6,if_pos h]at hg
   ·rw[if_neg h]at m4
    exact ⟨s',t',⟨b',m4⟩,by rw[<-hν s' t' ⟨b',m4⟩];exact hg⟩
 refine ⟨⟨hm.below,hm.size,λ s' t' ht => ?_,λ s' t' b' m4 => ?_,λ s1 t1 s2 t2 b1 b2 g h1 h2 g1 g2 => ?_⟩,he⟩
 ·rw[QL]at ht
  rw[K4,if_neg]
  ·refine hm.fresh s' t' ?_
   split at ht
   ·rename_i h;subst h;omega
   ·exact ht
  ·rintro ⟨rfl,rfl⟩
   simp at ht;omega
 ·rw[K4]at m4
  by_cases h:s'=s/\t'=m.own.j5 s
  ·rw[if_pos h]at m4
   obtain rfl:(⟨a7,[]⟩:HU)=b':=by simpa using m4
   refine ⟨by simp,?_⟩;show match j6 m s none s' t' with|none=>_|some g=>_
   rw[show j6 m s none s' t'=none by simp [j6,h]]
  ·rw[if_neg h]at m4
   obtain ⟨h1,h2⟩:=hm.c9 s' t' b' m4;refine ⟨h1,?_⟩;show match j6 m s none s' t' with|none=>_|some g=>_
   rw[hν s' t' ⟨b',m4⟩];cases hv:m.ν s' t' with
   | none=>rw[hv]at h2;exact h2
   | some g =>
    rw[hv]at h2;obtain ⟨h3,ar,e',h4,h5⟩:=h2;refine ⟨h3,ar,e',h4,λ i cs hi j c hj => ?_⟩;obtain ⟨u,hu,aj⟩:=h5 i cs hi j c hj;exact ⟨u,hu,he.cc aj⟩
 ·rw[K4]at h1 h2
  by_cases p1:s1=s/\t1=m.own.j5 s
  ·simp [j6,if_pos p1]at g1
  ·by_cases p2:s2=s/\t2=m.own.j5 s
   ·simp [j6,if_pos p2]at g2
   ·rw[if_neg p1]at h1
    rw[if_neg p2]at h2;exact hm.inj s1 t1 s2 t2 b1 b2 g h1 h2 (by rw[<-hν s1 t1 ⟨b1,h1⟩];exact g1) (by rw[<-hν s2 t2 ⟨b2,h2⟩];exact g2)
theorem AgU {m:M} (hm:D8 B S w0 m) (s t:Nat) (b b':HU) (hb:m.own.get s t=some b) (g:Nat) (hg:m.ν s t=some g) (arr w3:Array Value) (e:TypeId)
  (ha:m.w.heap[g]? = some (.cells arr e (0,0))) (hz':b'.a7=b.a7) (hz : ∀ x∈b'.es,x.length=b'.a7) (z8:w3.size=arr.size)
  (hc : ∀ i cs,b'.es[i]? = some cs -> ∀ j c,cs[j]? = some c -> ∃ u,w3[i*b'.a7+j]? = some u/\CC B S m c u) (w':World) (lz:Below B w0 w') (Ee:w'.heap.size=m.w.heap.size)
  (hk : ∀ k,k≠g->w'.heap[k]? = m.w.heap[k]?) (hgw:w'.heap[g]? = some (.cells w3 e (0,0))) :
  D8 B S w0 ⟨m.ν,m.own.put s ((m.own s).w6 t (some b')),w'⟩/\HC B S m ⟨m.ν,m.own.put s ((m.own s).w6 t (some b')),w'⟩:=by
 have l7:t<m.own.j5 s:=by
  rcases Nat.lt_or_ge t (m.own.j5 s) with h|h
  ·exact h
  ·rw[hm.fresh s t h]at hb;cases hb
 have he:HC B S m ⟨m.ν,m.own.put s ((m.own s).w6 t (some b')),w'⟩:=by
  refine bW hm (by rw[Ee];exact Nat.le_refl _) (λ k lj hn=>hk k (λ e=>hn s t ⟨b,hb⟩ (e ▸ hg))) (λ s'=>by rw[Aby];exact Nat.le_refl _) (λ s' t' b2 ht z7 => ?_) (λ s' t' g' hl dz _ => ?_)
  ·rw[kK]at z7
   by_cases h:s'=s/\t'=t
   ·obtain ⟨rfl,rfl⟩:=h
    rw[if_pos ⟨rfl,rfl⟩]at z7;obtain rfl:b'=b2:=by simpa using z7
    refine ⟨b,hb,hz',rfl,λ g2 ar e' nn Bq => ?_⟩;obtain rfl:g=g2:=by rw[hg]at nn;simpa using nn
    rw[ha]at Bq;obtain ⟨rfl,rfl⟩:arr=ar/\e=e':=by simpa using Bq
    exact ⟨w3,hgw,z8⟩
   ·rw[if_neg h]at z7
    refine ⟨b2,z7,rfl,rfl,λ g2 ar e' nn Bq=>⟨ar,?_,rfl⟩⟩;rw[<-Bq];exact hk g2 (λ e2=>h (by
     subst e2;exact hm.inj s' t' s t b2 b g2 z7 hb nn hg))
  ·obtain ⟨b2,z7⟩:=hl
   rw[kK]at z7;by_cases h:s'=s/\t'=t
   ·obtain ⟨rfl,rfl⟩:=h
    exact ⟨s',t',⟨b,hb⟩,dz⟩
   ·rw[if_neg h]at z7
    exact ⟨s',t',⟨b2,z7⟩,dz⟩
 refine ⟨⟨lz,by rw[Ee];exact hm.size,λ s' t' ht => ?_,λ s' t' b2 z7 => ?_,λ s1 t1 s2 t2 b1 b2 g1 h1 h2 e1 e2 => ?_⟩,he⟩
 ·rw[Aby]at ht
  rw[kK,if_neg (by rintro ⟨rfl,rfl⟩;omega)];exact hm.fresh s' t' ht
 ·rw[kK]at z7
  by_cases h:s'=s/\t'=t
  ·obtain ⟨rfl,rfl⟩:=h
   rw[if_pos ⟨rfl,rfl⟩]at z7;obtain rfl:b'=b2:=by simpa using z7
   refine ⟨hz,?_⟩;show match m.ν s' t' with|none=>_|some g=>_
   rw[hg];refine ⟨(hm.ge ⟨b,hb⟩ hg).1,w3,e,hgw,λ i cs hi j c hj => ?_⟩;obtain ⟨u,hu,aj⟩:=hc i cs hi j c hj;exact ⟨u,hu,he.cc aj⟩
  ·rw[if_neg h]at z7
   obtain ⟨h1,h2⟩:=hm.c9 s' t' b2 z7;refine ⟨h1,?_⟩;show match m.ν s' t' with|none=>_|some g=>_
   cases hv:m.ν s' t' with
   | none=>rw[hv]at h2;exact h2
   | some g2 =>
    rw[hv]at h2;obtain ⟨h3,ar,e',h4,h5⟩:=h2;refine ⟨h3,ar,e',?_,λ i cs hi j c hj => ?_⟩
    ·rw[<-h4]
     exact hk g2 (λ e2=>h (by
      subst e2;exact hm.inj s' t' s t b2 b g2 z7 hb hv hg))
    ·obtain ⟨u,hu,aj⟩:=h5 i cs hi j c hj
     exact ⟨u,hu,he.cc aj⟩
 ·have old : ∀ s' t' b2,(m.own.put s ((m.own s).w6 t (some b'))).get s' t'=some b2 -> ∃ b3,m.own.get s' t'=some b3:=λ s' t' b2 h=>by
   rw[kK]at h;by_cases h':s'=s/\t'=t
   ·obtain ⟨rfl,rfl⟩:=h';exact ⟨b,hb⟩
   ·rw[if_neg h']at h;exact ⟨b2,h⟩
  obtain ⟨c1,k1⟩:=old s1 t1 b1 h1;obtain ⟨c2,k2⟩:=old s2 t2 b2 h2;exact hm.inj s1 t1 s2 t2 c1 c2 g1 k1 k2 e1 e2
theorem bY (o:BD) (s t s' t':Nat) (b:HU):(o.put s (((o s).w6 t none).new b)).get s' t'=if s'=s/\t'=o.j5 s then some b else if s'=s/\t'=t then none else o.get s' t':=by
 unfold BD.get BD.put E4.new E4.w6 BD.j5;by_cases h:s'=s
 ·subst h
  by_cases h2:t'=(o s').j5<;>by_cases h3:t'=t<;>simp [h2,h3]
 ·simp [h]
theorem nT (o:BD) (s t s':Nat) (b:HU):(o.put s (((o s).w6 t none).new b)).j5 s'=if s'=s then o.j5 s+1 else o.j5 s':=by
 unfold BD.j5 BD.put E4.new E4.w6;by_cases h:s'=s<;>simp [h]
theorem xL {m:M} (hm:D8 B S w0 m) (s t:Nat) (b b':HU) (hb:m.own.get s t=some b) (fu:Option Nat) (w':World) (lz:Below B w0 w') (z8:m.w.heap.size<=w'.heap.size)
  (hk : ∀ k,k<m.w.heap.size->m.ν s t≠some k->w'.heap[k]? = m.w.heap[k]?) (hz : ∀ x∈b'.es,x.length=b'.a7)
  (zt:fu=none->b'.es=[])
  (zz : ∀ g,fu=some g->B<=g/\(m.w.heap.size<=g\/m.ν s t=some g) /\ ∃ arr e,w'.heap[g]? = some (.cells arr e (0,0)) /\
   ∀ i cs,b'.es[i]? = some cs -> ∀ j c,cs[j]? = some c -> ∃ u,arr[i*b'.a7+j]? = some u/\CC B S m c u) :
  D8 B S w0 ⟨j6 m s fu,m.own.put s (((m.own s).w6 t none).new b'),w'⟩/\HC B S m ⟨j6 m s fu,m.own.put s (((m.own s).w6 t none).new b'),w'⟩:=by
 have l7:t<m.own.j5 s:=by
  rcases Nat.lt_or_ge t (m.own.j5 s) with h|h
  ·exact h
  ·rw[hm.fresh s t h]at hb;cases hb
 have hν : ∀ s' t',live m s' t'->j6 m s fu s' t'=m.ν s' t':=λ s' t' hl=>by
  unfold j6;rw[if_neg];rintro ⟨rfl,rfl⟩
  exact pX hm _ hl
 have he:HC B S m ⟨j6 m s fu,m.own.put s (((m.own s).w6 t none).new b'),w'⟩:=by
  refine bW hm z8 (λ k lj hn=>hk k lj (hn s t ⟨b,hb⟩)) (λ s' => ?_) (λ s' t' b2 ht z7 => ?_) (λ s' t' g' hl dz zm => ?_)
  ·rw[nT];split
   ·rename_i h;subst h;omega
   ·exact Nat.le_refl _
  ·rw[bY]at z7
   rw[if_neg (by rintro ⟨rfl,rfl⟩;omega)]at z7;by_cases h:s'=s/\t'=t
   ·rw[if_pos h]at z7;cases z7
   ·rw[if_neg h]at z7
    refine ⟨b2,z7,rfl,hν s' t' ⟨b2,z7⟩,λ g2 ar e' nn Bq=>⟨ar,?_,rfl⟩⟩;rw[<-Bq];exact hk g2 (Array.getElem?_eq_some_iff.1 Bq).1 (λ e2=>h (hm.inj s' t' s t b2 b g2 z7 hb nn e2))
  ·obtain ⟨b2,z7⟩:=hl
   rw[bY]at z7;by_cases h0:s'=s/\t'=m.own.j5 s
   ·simp only[j6,if_pos h0]at dz
    obtain ⟨_,h2,_⟩:=zz g' dz;rcases h2 with h2|h2
    ·omega
    ·exact ⟨s,t,⟨b,hb⟩,h2⟩
   ·rw[if_neg h0]at z7
    by_cases h:s'=s/\t'=t
    ·rw[if_pos h]at z7;cases z7
    ·rw[if_neg h]at z7
     exact ⟨s',t',⟨b2,z7⟩,by rw[<-hν s' t' ⟨b2,z7⟩];exact dz⟩
 refine ⟨⟨lz,Nat.le_trans hm.size z8,λ s' t' ht => ?_,λ s' t' b2 z7 => ?_,λ s1 t1 s2 t2 b1 b2 g1 h1 h2 e1 e2 => ?_⟩,he⟩
 ·rw[nT]at ht
  have pd:m.own.j5 s'<=t' /\ ¬ (s'=s/\t'=m.own.j5 s):=by
   by_cases h:s'=s
   ·subst h
    simp at ht;exact ⟨by omega,by omega⟩
   ·simp [h]at ht
    exact ⟨ht,λ h'=>h h'.1⟩
  rw[bY,if_neg pd.2];split
  ·rfl
  ·exact hm.fresh s' t' pd.1
 ·rw[bY]at z7
  by_cases h0:s'=s/\t'=m.own.j5 s
  ·rw[if_pos h0]at z7
   obtain rfl:b'=b2:=by simpa using z7
   refine ⟨hz,?_⟩;show match j6 m s fu s' t' with|none=>_|some g=>_
   rw[show j6 m s fu s' t'=fu by simp [j6,h0]];cases fu with
   | none=>exact zt rfl
   | some g =>
    obtain ⟨h1,_,arr,e,h4,h5⟩:=zz g rfl;refine ⟨h1,arr,e,h4,λ i cs hi j c hj => ?_⟩;obtain ⟨u,hu,aj⟩:=h5 i cs hi j c hj;exact ⟨u,hu,he.cc aj⟩
  ·rw[if_neg h0]at z7
   by_cases h:s'=s/\t'=t
   ·rw[if_pos h]at z7;cases z7
   ·rw[if_neg h]at z7
    obtain ⟨h1,h2⟩:=hm.c9 s' t' b2 z7;refine ⟨h1,?_⟩;show match j6 m s fu s' t' with|none=>_|some g=>_
    rw[hν s' t' ⟨b2,z7⟩];cases hv:m.ν s' t' with
    | none=>rw[hv]at h2;exact h2
    | some g2 =>
     rw[hv]at h2;obtain ⟨h3,ar,e',h4,h5⟩:=h2;refine ⟨h3,ar,e',?_,λ i cs hi j c hj => ?_⟩
     ·rw[<-h4]
      exact hk g2 (Array.getElem?_eq_some_iff.1 h4).1 (λ e2=>h (hm.inj s' t' s t b2 b g2 z7 hb hv e2))
     ·obtain ⟨u,hu,aj⟩:=h5 i cs hi j c hj
      exact ⟨u,hu,he.cc aj⟩
 ·rw[bY]at h1 h2
  have old : ∀ s' t' b2,(if s'=s/\t'=t then none else m.own.get s' t')=some b2->m.own.get s' t'=some b2 /\ ¬ (s'=s/\t'=t):=λ s' t' b2 h=>by
   by_cases h':s'=s/\t'=t
   ·rw[if_pos h']at h;cases h
   ·rw[if_neg h']at h;exact ⟨h,h'⟩
  have pt : ∀ s' t' b2,m.own.get s' t'=some b2 -> ¬ (s'=s/\t'=t)->j6 m s fu s' t'=some g1->fu=some g1->False:=λ s' t' b2 z7 m7 e1 e2=>by
   rw[hν s' t' ⟨b2,z7⟩]at e1;obtain ⟨_,h2,_⟩:=zz g1 e2;obtain ⟨_,ar,e',h4⟩:=hm.ge ⟨b2,z7⟩ e1;have:=(Array.getElem?_eq_some_iff.1 h4).1
   rcases h2 with h2|h2
   ·omega
   ·exact m7 (hm.inj s' t' s t b2 b g1 z7 hb e1 h2)
  have at_ : ∀ s' t',s'=s/\t'=m.own.j5 s->j6 m s fu s' t'=some g1->fu=some g1:=λ s' t' h hg=>by simpa [j6,if_pos h] using hg
  by_cases p1:s1=s/\t1=m.own.j5 s<;>by_cases p2:s2=s/\t2=m.own.j5 s
  ·exact ⟨p1.1.trans p2.1.symm,p1.2.trans p2.2.symm⟩
  ·rw[if_neg p2]at h2
   obtain ⟨k2,n2⟩:=old s2 t2 b2 h2;exact (pt s2 t2 b2 k2 n2 e2 (at_ s1 t1 p1 e1)).elim
  ·rw[if_neg p1]at h1
   obtain ⟨k1,n1⟩:=old s1 t1 b1 h1;exact (pt s1 t1 b1 k1 n1 e1 (at_ s2 t2 p2 e2)).elim
  ·rw[if_neg p1]at h1
   rw[if_neg p2]at h2;obtain ⟨k1,n1⟩:=old s1 t1 b1 h1;obtain ⟨k2,n2⟩:=old s2 t2 b2 h2;exact hm.inj s1 t1 s2 t2 b1 b2 g1 k1 k2 (by rw[<-hν s1 t1 ⟨b1,k1⟩];exact e1) (by rw[<-hν s2 t2 ⟨b2,k2⟩];exact e2)
theorem AdH (o:BD) (l:List Nat) (s t:Nat):(o.drop l).get s t=if s∈l then none else o.get s t:=by
 induction l with
 | nil=>simp [BD.drop]
 | cons x r ih =>
  unfold BD.get at *;by_cases h:s=x
  ·subst h;simp [BD.drop,BD.put]
  ·simp only[BD.drop,BD.put,if_neg h,List.mem_cons]
   rw[ih];by_cases h2:s∈r<;>simp [h,h2]
theorem Abx (o:BD) (l:List Nat) (s:Nat):(o.drop l).j5 s=o.j5 s:=by
 induction l with
 | nil=>simp [BD.drop]
 | cons x r ih =>
  unfold BD.j5 at *;by_cases h:s=x
  ·subst h;simp [BD.drop,BD.put]
  ·simp [BD.drop,BD.put,h,ih]
theorem Alk {m:M} (hm:D8 B S w0 m) (l:List Nat):D8 B S w0 ⟨m.ν,m.own.drop l,m.w⟩/\HC B S m ⟨m.ν,m.own.drop l,m.w⟩:=by
 have old : ∀ s t b,(m.own.drop l).get s t=some b->m.own.get s t=some b:=λ s t b h=>by
  rw[AdH]at h;split at h
  ·cases h
  ·exact h
 have he:HC B S m ⟨m.ν,m.own.drop l,m.w⟩:=by
  refine bW hm (Nat.le_refl _) (λ_ _ _=>rfl) (λ s=>by rw[Abx];exact Nat.le_refl _) (λ s t b' _ m4=>⟨b',old s t b' m4,rfl,rfl,λ_ ar _ _ ha=>⟨ar,ha,rfl⟩⟩) (λ s t g hl hg _ => ?_);obtain ⟨b,hb⟩:=hl;exact ⟨s,t,⟨b,old s t b hb⟩,hg⟩
 refine ⟨⟨hm.below,hm.size,λ s t ht => ?_,λ s t b hb => ?_,λ s1 t1 s2 t2 b1 b2 g h1 h2=>hm.inj s1 t1 s2 t2 b1 b2 g (old _ _ _ h1) (old _ _ _ h2)⟩,he⟩
 ·rw[Abx]at ht
  rw[AdH];split
  ·rfl
  ·exact hm.fresh s t ht
 ·obtain ⟨h1,h2⟩:=hm.c9 s t b (old s t b hb)
  refine ⟨h1,?_⟩;show match m.ν s t with|none=>_|some g=>_
  cases hv:m.ν s t with
  | none=>rw[hv]at h2;exact h2
  | some g =>
   rw[hv]at h2;obtain ⟨h3,ar,e',h4,h5⟩:=h2;refine ⟨h3,ar,e',h4,λ i cs hi j c hj => ?_⟩;obtain ⟨u,hu,aj⟩:=h5 i cs hi j c hj;exact ⟨u,hu,he.cc aj⟩
end
end Go.b8

namespace Go.b8
section
variable {P:Program} {num:Nat->Nat} {op:Op}
theorem Aor {y:BL} (h:C4 P num op (.v3 y)=true) : ∃ x,(op = .move x\/op = .assign x)/\EK x y=true:=by
 cases op with
 | move x=>exact ⟨x,.inl rfl,h⟩
 | assign x=>exact ⟨x,.inr rfl,h⟩
 | _=>exact Bool.noConfusion h
theorem Aox {s z:Nat} (h:C4 P num op (.bu s z)=true):(op = .move (.const (.slice none 0 0))\/op = .assign (.const (.slice none 0 0)))/\z≠0:=by
 simp only[C4,Bool.and_eq_true,bne_iff_ne]at h;refine ⟨?_,h.1⟩;have h2:=h.2;split at h2<;>simp_all
theorem Aos {c' a' b':BL} (h:C4 P num op (.pick c' a' b')=true) : ∃ c a b,op = .pick c a b/\EK c c'=true/\EK a a'=true/\EK b b'=true:=by
 cases op with
 | pick c a b=>simp only[C4,Bool.and_eq_true]at h;exact ⟨c,a,b,rfl,h.1.1,h.1.2,h.2⟩
 | _=>exact Bool.noConfusion h
theorem Aob {f:BinOp} {x' y':BL} (h:C4 P num op (.bin f x' y')=true) : ∃ t x y u,op = .binOp f t x y u/\EK x x'=true/\EK y y'=true:=by
 cases op with
 | binOp f' t x y u =>
  simp only[C4,Bool.and_eq_true,beq_iff_eq]at h;exact ⟨t,x,y,u,by rw[h.1.1],h.1.2,h.2⟩
 | _=>exact Bool.noConfusion h
theorem Aoa {ne:Bool} {x' y':BL} (h:C4 P num op (.beq ne x' y')=true) : ∃ t x y u,op = .binOp (if ne then .neq else .eql) t x y u/\P.underlying t=some .bool/\EK x x'=true/\EK y y'=true:=by
 cases op with
 | binOp f' t x y u =>
  simp only[C4,Bool.and_eq_true]at h;obtain ⟨⟨⟨h1,h2⟩,h3⟩,h4⟩:=h;refine ⟨t,x,y,u,?_,?_,h3,h4⟩
  ·cases ne<;>simp_all
  ·split at h2<;>simp_all
 | _=>exact Bool.noConfusion h
theorem Aow {f:UnOp} {x':BL} (h:C4 P num op (.un f x')=true) : ∃ t x,op = .unOp f t x/\EK x x'=true:=by
 cases op with
 | unOp f' t x =>
  simp only[C4,Bool.and_eq_true,beq_iff_eq]at h;exact ⟨t,x,by rw[h.1],h.2⟩
 | _=>exact Bool.noConfusion h
theorem Aoj {k:IntKind} {x':BL} (h:C4 P num op (.conv k x')=true) : ∃ s d x ds,op = .convert s d x/\P.underlying s=some ds/\P.underlying d=some (.int k)/\EK x x'=true:=by
 cases op with
 | convert s d x =>
  simp only[C4,Bool.and_eq_true]at h;obtain ⟨⟨h1,h2⟩,h3⟩:=h;obtain ⟨ds,Fs⟩:=Option.isSome_iff_exists.1 h1;refine ⟨s,d,x,ds,rfl,Fs,?_,h3⟩;split at h2<;>simp_all
 | _=>exact Bool.noConfusion h
theorem Aoc {s:Nat} {x':BL} (h:C4 P num op (.box s x')=true) : ∃ t x,op = .box t x/\EK x x'=true:=by
 cases op with
 | box t x=>exact ⟨t,x,rfl,h⟩
 | _=>exact Bool.noConfusion h
theorem An9 {s:Nat} {z:List AV} (h:C4 P num op (.alloc s z)=true) : ∃ t,op = .alloc t/\dJ P t z=true:=by
 cases op with
 | alloc t=>exact ⟨t,rfl,h⟩
 | _=>exact Bool.noConfusion h
theorem Aoe {z:List AV} {gk:List (Nat × Nat × BL)} (h:C4 P num op (.build z gk)=true) : ∃ t ps,op = .build t ps/\dJ P t z=true/\tG P t ps.toList gk=true:=by
 cases op with
 | build t ps=>simp only[C4,Bool.and_eq_true]at h;exact ⟨t,ps,rfl,h.1,h.2⟩
 | _=>exact Bool.noConfusion h
theorem aF {t:TypeId} {f:TypeId->Bool} (h:QA P t f=true) : ∃ e,P.underlying t=some (.slice e)/\f e=true:=by
 unfold QA at h;split at h
 ·rename_i e he;exact ⟨e,he,h⟩
 ·cases h
theorem V7 {t:TypeId} {n:Nat} (h:OZ P t n=true) : ∃ i,P.info? t=some i/\i.size=n:=by
 unfold OZ at h;split at h
 ·rename_i i hi;exact ⟨i,hi,by simpa using h⟩
 ·cases h
theorem Abe {t:TypeId} {n:Nat} (h:nL P t n=true) : ∃ i,P.info? t=some i/\i.bytes=n:=by
 unfold nL at h;split at h
 ·rename_i i hi;exact ⟨i,hi,by simpa using h⟩
 ·cases h
theorem Qx {t:TypeId} {l:List AV} (h:dJ P t l=true) : ∃ i z,P.info? t=some i/\i.zero=some z/\YJ z.cells.toList l=true:=by
 unfold dJ at h;split at h
 ·rename_i i hi
  split at h
  ·rename_i z hz;exact ⟨i,z,hi,hz,h⟩
  ·cases h
 ·cases h
theorem sT {t:TypeId} {b:Bool} (h:(dW P t == some b)=true) : ∀ w,(isAgg t).run P w = .ok b w:=by
 intro w;have h':dW P t=some b:=by simpa using h
 unfold dW at h';unfold isAgg;cases hu:P.underlying t with
 | none=>rw[hu]at h';cases h'
 | some d =>
  rw[hu]at h';rw[Sem.run_bind,run_underlying hu];cases d<;>simp_all<;>rfl
theorem Ahn {e:TypeId} {n:Nat} (h:(match P.info? e with|some i=>(match i.zero with|some z=>z.cells.size == n|none=>false)|none=>false)=true) : ∃ i z,P.info? e=some i/\i.zero=some z/\z.cells.size=n:=by
 split at h
 ·rename_i i hi
  split at h
  ·rename_i z hz;exact ⟨i,z,hi,hz,by simpa using h⟩
  ·cases h
 ·cases h
theorem Aod {s a7:Nat} {gk:List BL} (h:C4 P num op (.a8 s a7 gk)=true) : ∃ t n ps e i,op = .buildSlice t n ps/\P.underlying t=some (.slice e)/\P.info? e=some i/\i.size=a7/\a7≠0/\n=gk.length/\n*a7<=16777216/\bL 0 ps.toList gk=true/\(n=0 \/ ∃ z,i.zero=some z/\z.cells.size=a7):=by
 cases op with
 | buildSlice t n ps =>
  simp only[C4,Bool.and_eq_true,decide_eq_true_eq,bne_iff_ne,beq_iff_eq,Bool.or_eq_true]at h;obtain ⟨⟨⟨⟨⟨h1,h2⟩,h3⟩,h4⟩,h5⟩,h6⟩:=h;obtain ⟨e,he,h1⟩:=aF h1;obtain ⟨i,hi,hs⟩:=V7 h1;refine ⟨t,n,ps,e,i,rfl,he,hi,hs,h2,h3,h4,h5,h6.imp id λ h6 => ?_⟩;obtain ⟨e',jy,h6⟩:=aF h6;rw[he]at jy;obtain rfl:e=e':=by simpa using jy
  obtain ⟨i',z,u5,hz,xj⟩:=Ahn h6;rw[hi]at u5;obtain rfl:i=i':=by simpa using u5
  exact ⟨z,hz,xj⟩
 | _=>exact Bool.noConfusion h
theorem Ad5 {x':BL} {off:Nat} (h:C4 P num op (.k7 x' off)=true) : ∃ t x f fs fd i,op = .fieldAddr t x f/\EK x x'=true/\P.underlying t=some (.struct fs)/\fs[f]? = some fd/\fd.offset=off/\P.info? fd.type=some i/\i.size≠0:=by
 cases op with
 | fieldAddr t x f =>
  simp only[C4,Bool.and_eq_true]at h;obtain ⟨h1,h2⟩:=h;split at h2
  ·rename_i fs yz
   split at h2
   ·rename_i fd Oo
    simp only[Bool.and_eq_true,beq_iff_eq]at h2;obtain ⟨h3,h4⟩:=h2;split at h4
    ·rename_i i hi
     exact ⟨t,x,f,fs,fd,i,rfl,h1,yz,Oo,h3,hi,by simpa using h4⟩
    ·cases h4
   ·cases h2
  ·cases h2
 | _=>exact Bool.noConfusion h
theorem Aom {x':BL} {off n:Nat} {agg:Bool} (h:C4 P num op (.rn x' off n agg)=true) : ∃ t x f fs fd i,op = .field t x f/\EK x x'=true/\P.underlying t=some (.struct fs)/\fs[f]? = some fd/\fd.offset=off/\P.info? fd.type=some i/\i.size=n/\(∀ w,(isAgg fd.type).run P w = .ok agg w)/\n≠0:=by
 cases op with
 | field t x f =>
  simp only[C4,Bool.and_eq_true]at h;obtain ⟨⟨h1,h2⟩,h3⟩:=h;unfold Adp at h2;unfold Adq at h3;split at h2
  ·rename_i fs yz
   split at h2
   ·rename_i fd Oo
    simp only[Bool.and_eq_true,beq_iff_eq,bne_iff_ne]at h2;obtain ⟨⟨h4,h5⟩,h6⟩:=h2;obtain ⟨i,hi,hs⟩:=V7 h5;rw[yz]at h3;simp only[Oo]at h3;exact ⟨t,x,f,fs,fd,i,rfl,h1,yz,Oo,h4,hi,hs,sT h3,h6⟩
   ·cases h2
  ·cases h2
 | _=>exact Bool.noConfusion h
theorem pJ {arr:Option Nat} {a7:Nat} {x' i':BL} (h:C4 P num op (.v7 arr a7 x' i')=true) : ∃ t x i e inf,op = .indexAddr t x i/\EK x x'=true/\EK i i'=true/\P.info? e=some inf/\inf.size=a7 /\
  ((∃ len,arr=some len/\P.underlying t=some (.array len e)/\1<len)\/(arr=none/\P.underlying t=some (.slice e)/\a7≠0)):=by
 cases op with
 | indexAddr t x i =>
  simp only[C4,Bool.and_eq_true]at h;obtain ⟨⟨h1,h2⟩,h3⟩:=h;split at h3
  ·rename_i len e wk hu
   simp only[Bool.and_eq_true,beq_iff_eq,decide_eq_true_eq]at h3;obtain ⟨⟨h4,h5⟩,h6⟩:=h3;obtain ⟨inf,hi,hs⟩:=V7 h5;exact ⟨t,x,i,e,inf,rfl,h1,h2,hi,hs,.inl ⟨len,by rw[h4],hu,h6⟩⟩
  ·rename_i e hu
   simp only[Bool.and_eq_true,bne_iff_ne]at h3;obtain ⟨inf,hi,hs⟩:=V7 h3.1;exact ⟨t,x,i,e,inf,rfl,h1,h2,hi,hs,.inr ⟨rfl,hu,h3.2⟩⟩
  ·cases h3
 | _=>exact Bool.noConfusion h
theorem Ad6 {agg:Bool} {n:Nat} {x':BL} (h:C4 P num op (.ld agg n x')=true) : ∃ t x,op = .load t x/\EK x x'=true/\(∀ w,(isAgg t).run P w = .ok agg w)/\(if agg then ∃ i,P.info? t=some i/\i.size=n else n=1):=by
 cases op with
 | load t x =>
  simp only[C4,Bool.and_eq_true]at h;obtain ⟨⟨h1,h2⟩,h3⟩:=h;refine ⟨t,x,rfl,h1,sT h2,?_⟩;cases agg
  ·simpa using h3
  ·exact V7 (by simpa using h3)
 | _=>exact Bool.noConfusion h
theorem Aou {n:Nat} {x' v':BL} (h:C4 P num op (.st n x' v')=true) : ∃ t x v i,op = .store t x v/\EK x x'=true/\EK v v'=true/\P.info? t=some i/\i.size=n:=by
 cases op with
 | store t x v =>
  simp only[C4,Bool.and_eq_true]at h;obtain ⟨⟨h1,h2⟩,h3⟩:=h;obtain ⟨i,hi,hs⟩:=V7 h3;exact ⟨t,x,v,i,rfl,h1,h2,hi,hs⟩
 | _=>exact Bool.noConfusion h
theorem Aop {s a7 bytes:Nat} {zero:List AV} {l' c':BL} (h:C4 P num op (.mk s a7 bytes zero l' c')=true) : ∃ t l c e i z,op = .makeSlice t l c/\EK l l'=true/\EK c c'=true/\P.underlying t=some (.slice e)/\P.info? e=some i/\i.size=a7/\i.bytes=bytes/\i.zero=some z/\YJ z.cells.toList zero=true/\a7≠0:=by
 cases op with
 | makeSlice t l c =>
  simp only[C4,Bool.and_eq_true,bne_iff_ne]at h;obtain ⟨⟨⟨h1,h2⟩,h3⟩,h4⟩:=h;obtain ⟨e,he,h3⟩:=aF h3;simp only[Bool.and_eq_true]at h3;obtain ⟨⟨h5,h6⟩,h7⟩:=h3;obtain ⟨i,hi,hs⟩:=V7 h5;obtain ⟨i2,wx,Cj⟩:=Abe h6;obtain ⟨i3,z,Ie,hz,ml⟩:=Qx h7;rw[hi]at wx Ie;obtain rfl:i=i2:=by simpa using wx
  obtain rfl:i=i3:=by simpa using Ie
  exact ⟨t,l,c,e,i,z,rfl,h1,h2,he,hi,hs,Cj,hz,ml,h4⟩
 | _=>exact Bool.noConfusion h
theorem wW {a7:Nat} {x':BL} {ta u5:Option BL} (h:C4 P num op (.gn a7 x' ta u5)=true) : ∃ t x lo hi e i,op = .slice t x lo hi none/\EK x x'=true/\XB lo ta=true/\XB hi u5=true/\P.underlying t=some (.slice e)/\P.info? e=some i/\i.size=a7/\a7≠0:=by
 cases op with
 | slice t x lo hi mx =>
  cases mx with
  | some _=>exact Bool.noConfusion h
  | none =>
   simp only[C4,Bool.and_eq_true,bne_iff_ne]at h;obtain ⟨⟨⟨⟨h1,h2⟩,h3⟩,h4⟩,h5⟩:=h;obtain ⟨e,he,h4⟩:=aF h4;obtain ⟨i,u5,hs⟩:=V7 h4;exact ⟨t,x,lo,hi,e,i,rfl,h1,h2,h3,he,u5,hs,h5⟩
 | _=>exact Bool.noConfusion h
theorem Aol {x':BL} {i:Nat} (h:C4 P num op (.ext x' i)=true) : ∃ x,op = .extract x i/\EK x x'=true:=by
 cases op with
 | extract x j =>
  simp only[C4,Bool.and_eq_true,beq_iff_eq]at h;exact ⟨x,by rw[h.2],h.1⟩
 | _=>exact Bool.noConfusion h
theorem rO {α:Type} {xs:Array α} {x y:α} (h:xs.toList=[x,y]):xs = #[x,y]:=by cases xs;simp_all
theorem AgH {α:Type} {xs:Array α} {x:α} (h:xs.toList=[x]):xs = #[x]:=by cases xs;simp_all
theorem Aoo {x':BL} (h:C4 P num op (.len x')=true) : ∃ x t e,op = .call ⟨.builtin .len,#[x],#[t]⟩/\EK x x'=true/\P.underlying t=some (.slice e):=by
 cases op with
 | call c =>
  obtain ⟨cl,xs,ts⟩:=c;cases cl with
  | builtin b =>
   cases b<;>first|exact Bool.noConfusion h|skip
   simp only[C4]at h;split at h
   ·rename_i x t hx ht
    simp only[Bool.and_eq_true]at h;obtain ⟨e,he,_⟩:=aF h.2;exact ⟨x,t,e,by rw[AgH hx,AgH ht],h.1,he⟩
   ·cases h
  | value f=>cases f<;>exact Bool.noConfusion h
  | invoke=>exact Bool.noConfusion h
 | _=>exact Bool.noConfusion h
theorem Ad7 {mx:Bool} {s8:List BL} (h:C4 P num op (.mm mx s8)=true) : ∃ xs ts,op = .call ⟨.builtin (if mx then .max else .min),xs,ts⟩/\IA xs.toList s8=true:=by
 cases op with
 | call c =>
  obtain ⟨cl,xs,ts⟩:=c;cases cl with
  | builtin b =>
   cases b<;>first|exact Bool.noConfusion h|skip
   all_goals
    simp only[C4,Bool.and_eq_true]at h;refine ⟨xs,ts,?_,h.2⟩;cases mx<;>simp_all
  | value f=>cases f<;>exact Bool.noConfusion h
  | invoke=>exact Bool.noConfusion h
 | _=>exact Bool.noConfusion h
theorem Ad4 {s a7 bytes:Nat} {x' y':BL} (h:C4 P num op (.app s a7 bytes x' y')=true) : ∃ x y t e i z tx ex,op = .call ⟨.builtin .append,#[x,y],#[t,tx]⟩/\EK x x'=true/\EK y y'=true/\P.underlying t=some (.slice e)/\P.info? e=some i/\i.size=a7/\i.bytes=bytes/\i.zero=some z/\z.cells.size=a7/\a7≠0/\P.underlying tx=some (.slice ex):=by
 cases op with
 | call c =>
  obtain ⟨cl,xs,ts⟩:=c;cases cl with
  | builtin b =>
   cases b<;>first|exact Bool.noConfusion h|skip
   simp only[C4]at h;split at h
   ·rename_i x y t u hx ht
    simp only[Bool.and_eq_true,beq_iff_eq,bne_iff_ne]at h;obtain ⟨⟨⟨⟨h1,h2⟩,h3⟩,h4⟩,h5⟩:=h;obtain ⟨e,he,h3⟩:=aF h3;simp only[Bool.and_eq_true]at h3;obtain ⟨⟨h6,h7⟩,h8⟩:=h3;obtain ⟨i,hi,hs⟩:=V7 h6;obtain ⟨i2,wx,Cj⟩:=Abe h7;obtain ⟨i3,z,Ie,hz,ml⟩:=Ahn h8;rw[hi]at wx Ie;obtain rfl:i=i2:=by simpa using wx
    obtain rfl:i=i3:=by simpa using Ie
    obtain ⟨ex,hex,_⟩:=aF h5;exact ⟨x,y,t,e,i,z,u,ex,by rw[rO hx,rO ht],h1,h2,he,hi,hs,Cj,hz,ml,h4,hex⟩
   ·cases h
  | value f=>cases f<;>exact Bool.noConfusion h
  | invoke=>exact Bool.noConfusion h
 | _=>exact Bool.noConfusion h
theorem Aok {a7:Nat} {x' y':BL} (h:C4 P num op (.pz a7 x' y')=true) : ∃ x y t e i,op = .call ⟨.builtin .copy,#[x,y],#[t,t]⟩/\EK x x'=true/\EK y y'=true/\P.underlying t=some (.slice e)/\P.info? e=some i/\i.size=a7/\a7≠0:=by
 cases op with
 | call c =>
  obtain ⟨cl,xs,ts⟩:=c;cases cl with
  | builtin b =>
   cases b<;>first|exact Bool.noConfusion h|skip
   simp only[C4]at h;split at h
   ·rename_i x y t u hx ht
    simp only[Bool.and_eq_true,beq_iff_eq,bne_iff_ne]at h;obtain ⟨⟨⟨⟨h1,h2⟩,h3⟩,h4⟩,h5⟩:=h;obtain ⟨e,he,h3⟩:=aF h3;obtain ⟨i,hi,hs⟩:=V7 h3;exact ⟨x,y,t,e,i,by rw[rO hx,rO ht,h5],h1,h2,he,hi,hs,h4⟩
   ·cases h
  | value f=>cases f<;>exact Bool.noConfusion h
  | invoke=>exact Bool.noConfusion h
 | _=>exact Bool.noConfusion h
theorem wO {f:Nat} {s8:List BL} (h:C4 P num op (.call f s8)=true) : ∃ xs ts,op = .call ⟨.value (.func (num f)),xs,ts⟩/\IA xs.toList s8=true:=by
 cases op with
 | call c =>
  obtain ⟨cl,xs,ts⟩:=c;cases cl with
  | builtin b=>cases b<;>exact Bool.noConfusion h
  | value g =>
   cases g with
   | func g =>
    simp only[C4,Bool.and_eq_true,beq_iff_eq]at h;exact ⟨xs,ts,by rw[h.1],h.2⟩
   | _=>exact Bool.noConfusion h
  | invoke=>exact Bool.noConfusion h
 | _=>exact Bool.noConfusion h
theorem Aof {f:Nat} {s8:List BL} (h:C4 P num op (.e8 f s8)=true) : ∃ xs ts,op = .call ⟨.value (.func (num f)),xs,ts⟩/\IA xs.toList s8=true:=by
 cases op with
 | call c =>
  obtain ⟨cl,xs,ts⟩:=c;cases cl with
  | builtin b=>cases b<;>exact Bool.noConfusion h
  | value g =>
   cases g with
   | func g =>
    simp only[C4,Bool.and_eq_true,beq_iff_eq]at h;exact ⟨xs,ts,by rw[h.1],h.2⟩
   | _=>exact Bool.noConfusion h
  | invoke=>exact Bool.noConfusion h
 | _=>exact Bool.noConfusion h
theorem Aog {f:Nat} {s8:List BL} (h:C4 P num op (.n9 f s8)=true):C4 P num op (.call f s8)=true:=by
 cases op<;>exact h
theorem Aoi {s f:Nat} {s8:List BL} (h:C4 P num op (.dh s f s8)=true):C4 P num op (.e8 f s8)=true:=by
 cases op<;>exact h
theorem Aoh {s f:Nat} {s8:List BL} (h:C4 P num op (.q6 s f s8)=true):C4 P num op (.call f s8)=true:=by
 cases op<;>exact h
theorem Aov {s n:Nat} {x' v':BL} (h:C4 P num op (.te s n x' v')=true):C4 P num op (.st n x' v')=true:=by
 cases op<;>exact h
theorem Aon {ne:Bool} {x':BL} (h:C4 P num op (.wh ne x')=true) : ∃ t x u e,op = .binOp (if ne then .neq else .eql) t x (.const (.slice none 0 0)) u/\P.underlying t=some (.slice e)/\EK x x'=true:=by
 cases op with
 | binOp f' t x y u =>
  simp only[C4]at h;split at h
  ·rename_i heq
   simp only[Op.binOp.injEq]at heq;obtain ⟨rfl,rfl,rfl,rfl,rfl⟩:=heq;simp only[Bool.and_eq_true]at h;obtain ⟨⟨h1,h2⟩,h3⟩:=h;unfold QA at h2;split at h2
   ·rename_i e he
    refine ⟨t,x,u,e,?_,he,h3⟩;cases ne
    ·simp only[Bool.false_eq_true,if_false,beq_iff_eq]at h1;rw[h1];rfl
    ·simp only[if_true,beq_iff_eq]at h1;rw[h1];rfl
   ·cases h2
  ·cases h
 | _=>exact Bool.noConfusion h
theorem Aot {tb:List Nat} {i':BL} (h:C4 P num op (.js tb i')=true) : ∃ t s i,op = .index t (.const (.string s)) i/\P.underlying t=some .string/\s.data.toList.map (λ b=>b.toNat)=tb/\EK i i'=true:=by
 cases op with
 | index t x i =>
  simp only[C4]at h;split at h
  ·rename_i heq
   simp only[Op.index.injEq]at heq;obtain ⟨rfl,rfl,rfl⟩:=heq;simp only[Bool.and_eq_true,beq_iff_eq]at h;obtain ⟨⟨h1,h2⟩,h3⟩:=h;exact ⟨_,_,_,rfl,by split at h1<;>simp_all,h2,h3⟩
  ·cases h
 | _=>exact Bool.noConfusion h
theorem Aoq {p:Bool} {f:Nat} {s8:List BL} (h:C4 P num op (.td p f s8)=true) : ∃ first xs,op = .makeFunc (.func (num f)) first xs/\first = #[]/\IA xs.toList s8=true:=by
 cases op with
 | makeFunc g first xs =>
  cases g with
  | func g =>
   simp only[C4,Bool.and_eq_true,beq_iff_eq]at h;obtain ⟨⟨rfl,h2⟩,h3⟩:=h;refine ⟨first,xs,rfl,?_,h3⟩;obtain ⟨l⟩:=first
   simp at h2;rw[h2]
  | _=>exact Bool.noConfusion h
 | _=>exact Bool.noConfusion h
theorem wV {x':BL} {s8:List BL} (h:C4 P num op (.q8 x' s8)=true) : ∃ x xs ts,op = .call ⟨.value x,xs,ts⟩/\EK x x'=true/\IA xs.toList s8=true:=by
 cases op with
 | call c =>
  obtain ⟨cl,xs,ts⟩:=c;cases cl with
  | builtin b=>cases b<;>exact Bool.noConfusion h
  | value g =>
   simp only[C4,Bool.and_eq_true]at h;exact ⟨g,xs,ts,rfl,h.1,h.2⟩
  | invoke=>exact Bool.noConfusion h
 | _=>exact Bool.noConfusion h
end
end Go.b8

namespace Go.b8
open Go.RowKit
def FB.ay:FB->BD->BD
 | .val _,o=>o
 | .new s b _,o=>o.put s ((o s).new b)
 | .Df s b _,o=>o.put s ((o s).new b)
 | .fp _ o',_=>o'
 | .w6 s x,o=>o.put s x
 | .Bg s x _,o=>o.put s x
def FB.valOf:FB->BD->AV
 | .val v,_=>v
 | .new s _ v,o=>v (o.j5 s)
 | .Df s _ v,o=>v (o.j5 s)
 | .fp v _,_=>v
 | .w6 _ _,_ => .g8 []
 | .Bg _ _ v,_=>v
section
variable {B:Nat} {S:Nat->Prop} {w0:World} {m:M}
theorem NU {k:IntKind} {n:Int} {v:Value} (h:CV B S m (.int k n) v):v = .int k n:=by
 cases h with
 | ca h=>cases h with
  | one h=>cases h with
   | rd h=>cases h;rfl
theorem bG {b:Bool} {v:Value} (h:CV B S m (.bool b) v):v = .bool b:=by
 cases h with
 | ca h=>cases h with
  | one h=>cases h with
   | rd h=>cases h;rfl
theorem Akc {cs:List AV} {v:Value} (h:CV B S m (.agg cs) v) : ∃ vs:List Value,v = .agg vs.toArray/\CL B S m cs vs:=by
 cases h with
 | ca h=>cases h with
  | one h=>cases h with
   | rd h=>cases h
  | agg _ vs h=>exact ⟨vs,rfl,h⟩
theorem tU {cs:List AV} {v:Value} (h:CV B S m (.g8 cs) v) : ∃ vs:List Value,v = .tuple vs.toArray/\cs.length=vs.length /\ ∀ (j:Nat) (c:AV) (u:Value),cs[j]? = some c->vs[j]? = some u->CA B S m c u:=by
 cases h with
 | ca h=>cases h with
  | one h=>cases h with
   | rd h=>cases h
 | g8 _ vs hl h=>exact ⟨vs,rfl,hl,h⟩
theorem XL (k:IntKind) (n:Int):CV B S m (.int k n) (.int k n):= .ca (.one (.rd (.int k n)))
theorem pQ (b:Bool):CV B S m (.bool b) (.bool b):= .ca (.one (.rd (.bool b)))
theorem AeI:CV B S m (.g8 []) undef := .g8 [] [] rfl (λ j c v h=>by simp at h)
theorem nW {a:AV} {cs:List AV} {v:Value} (h:CV B S m a v) (hc:cellsOf a=some cs):CL B S m cs v.cells.toList:=by
 cases h with
 | any v=>simp [cellsOf]at hc
 | g8=>simp [cellsOf]at hc
 | ca h=>cases h with
  | agg gp vs h =>
   obtain rfl:gp=cs:=by simpa [cellsOf] using hc
   simpa [Value.cells] using h
  | fn=>simp [cellsOf]at hc
  | yf=>simp [cellsOf]at hc
  | one h =>
   have h1:v.cells.toList=[v]:=by
    cases h with
    | rd h=>cases h<;>rfl
    | _=>rfl
   have h2:cs=[a]:=by
    cases h with
    | rd h=>cases h<;>simp [cellsOf]at hc<;>exact hc.symm
    | _=>simp [cellsOf]at hc;exact hc.symm
   rw[h1,h2];refine ⟨rfl,λ j c u hj hu => ?_⟩;cases j with
   | zero=>simp at hj hu;subst hj hu;exact h
   | succ j=>simp at hj
theorem AjI {cs:List AV} {vs:List Value} (h:CL B S m cs vs) : ∀ v∈vs,v.oneCell'=true:=by
 intro v hv;obtain ⟨j,hj,rfl⟩:=List.getElem_of_mem hv;have Ig:j<cs.length:=by rw[h.1];exact hj
 exact (h.2 j cs[j] vs[j] (zE Ig) (zE hj)).one
theorem AjL {cs:List AV} {vs:List Value} (h:CL B S m cs vs) (off n:Nat):CL B S m ((cs.drop off).take n) ((vs.drop off).take n):=by
 refine ⟨by simp [h.1],λ j c v hj hv => ?_⟩;rw[List.getElem?_take]at hj hv;split at hj
 ·rename_i l7
  rw[if_pos l7]at hv;rw[List.getElem?_drop]at hj hv;exact h.2 _ c v hj hv
 ·cases hj
theorem Acp {v:Value} {a:AV} (h:oI v a=true):CC B S m a v:=by
 unfold oI at h;split at h
 ·simp only[Bool.and_eq_true,beq_iff_eq]at h
  obtain ⟨rfl,rfl⟩:=h;exact .rd (.int _ _)
 ·obtain rfl:_=_:=by simpa using h
  exact .rd (.bool _)
 ·exact .nil
 ·rename_i s s'
  obtain rfl:s=s':=by
   have h':s.data.toList=s'.data.toList:=by simpa using h
   obtain ⟨⟨l⟩⟩:=s;obtain ⟨⟨l'⟩⟩:=s';simp only at h';rw[h']
  exact .rd (.str _)
 ·exact .rd .om
 ·cases h
theorem eJ : ∀ {vs:List Value} {cs:List AV},YJ vs cs=true->CL B S m cs vs
 | [],[],_=>⟨rfl,λ j c v h=>by simp at h⟩
 | v::r,c::l,h=>by
  simp only[YJ,Bool.and_eq_true]at h;have ih:=eJ (vs:=r) (cs:=l) h.2;refine ⟨by simp [ih.1],λ j c' v' hj hv => ?_⟩;cases j with
  | zero=>simp at hj hv;subst hj hv;exact Acp h.1
  | succ j=>exact ih.2 j c' v' (by simpa using hj) (by simpa using hv)
 | [],_::_,h=>by simp [YJ]at h
 | _::_,[],h=>by simp [YJ]at h
theorem AlD {v:Value} {a:AV} (h:uP v a=true):CV B S m a v:=by
 unfold uP at h;split at h
 ·rename_i cs l
  have:=eJ (B:=B) (S:=S) (m:=m) h
  exact .ca (by simpa using CA.agg l cs.toList this)
 ·exact .ca (.one (Acp h))
def FX (B:Nat) (S:Nat->Prop) (m:M) (ρ:BL->AV) (e:Operand->Value):Prop := ∀ x y,EK x y=true->CV B S m (ρ y) (e x)
theorem Aqp {T:Nat->AV} {a:Act} {ρ:BL->AV} (hρt : ∀ n,ρ (.t n)=T n) (hρc : ∀ v,ρ (.c v)=v) (h : ∀ i,CV B S m (T i) (a.tmps.getD i undef)):FX B S m ρ a.eval:=by
 intro x y xv;unfold EK at xv;split at xv
 ·obtain rfl:_=_:=by simpa using xv
  rw[hρt];exact h _
 ·rw[hρc]
  exact AlD xv
 ·obtain rfl:_=_:=by simpa using xv
  rw[hρc];exact .ca (.fn _ _ _ [] [] (λ_=>rfl) ⟨rfl,λ j c v h=>by simp at h⟩)
 ·cases xv
variable {P:Program} {num:Nat->Nat} {o:Oper} {a:Act} {ρ:BL->AV} {K:Act->World->Prop} {Q:Exit->Act->World->Prop}
theorem WQ {w w':World} {u:Value} (h:(execOp a.eval o).run P w = .ok (.value u) w') (hk:K (a.put o.dst u) w'):o.wp P a w K Q:=by
 unfold Oper.wp;rw[h];exact hk
theorem ArG {w w':World} (h:(execOp a.eval o).run P w = .ok .skip w') (hk:K (a.put o.dst undef) w'):o.wp P a w K Q:=by
 unfold Oper.wp;rw[h];exact hk
def F2 (B:Nat) (S:Nat->Prop) (w0:World) (P:Program) (o:Oper) (a:Act) (m:M) (E:FB):Prop :=
 ∀ (K:Act->World->Prop) (Q:Exit->Act->World->Prop),(∀ u m',m'.own=E.ay m.own->D8 B S w0 m'->HC B S m m'->CV B S m' (E.valOf m.own) u->K (a.put o.dst u) m'.w)->o.wp P a m.w K Q
theorem IU (hm:D8 B S w0 m) {v:AV} {u:Value} (h:(execOp a.eval o).run P m.w = .ok (.value u) m.w) (hc:CV B S m v u):F2 B S w0 P o a m (.val v) :=
 λ K Q hK=>WQ h (hK u m rfl hm (HC.refl m) hc)
theorem Ala (hm:D8 B S w0 m) (hs:FX B S m ρ a.eval) {y:BL} (h:C4 P num o.op (.v3 y)=true):F2 B S w0 P o a m (.val (ρ y)):=by
 obtain ⟨x,hx,he⟩:=Aor h;refine IU hm (u:=a.eval x) ?_ (hs x y he);rcases hx with hx|hx<;>simp [execOp,hx]
theorem Alg (hm:D8 B S w0 m) {s z:Nat} (h:C4 P num o.op (.bu s z)=true):F2 B S w0 P o a m (.Df s ⟨z,[]⟩ (λ t => .row s t z 0 0)):=by
 obtain ⟨hx,hz⟩:=Aox h;intro K Q hK;obtain ⟨h1,h2⟩:=Ag0 hm s z;refine WQ (u := .slice none 0 0) (w':=m.w) ?_ (hK _ ⟨j6 m s none,m.own.put s ((m.own s).new ⟨z,[]⟩),m.w⟩ rfl h1 h2 ?_)
 ·rcases hx with hx|hx<;>simp [execOp,hx,Act.eval]
 ·refine .ca (.one (.row s (m.own.j5 s) z 0 0 none 0 ?_ (by omega) (Nat.le_refl _) (λ h=>by omega) λ b hb => ?_))
  ·show _<BD.j5 _ s
   rw[QL];simp
  ·change BD.get _ s _=some b at hb
   rw[K4,if_pos ⟨rfl,rfl⟩]at hb;obtain rfl:(⟨z,[]⟩:HU)=b:=by simpa using hb
   exact ⟨rfl,.inl ⟨rfl,rfl⟩⟩
theorem Zf (hm:D8 B S w0 m) (hs:FX B S m ρ a.eval) {c' a' b':BL} (h:C4 P num o.op (.pick c' a' b')=true) {t:Bool} (hc:ρ c' = .bool t) :
  F2 B S w0 P o a m (.val (if t then ρ a' else ρ b')):=by
 obtain ⟨c,x,y,m6,h1,h2,h3⟩:=Aos h;have ae:=bG (hc ▸ hs c c' h1);refine IU hm (u:=if t then a.eval x else a.eval y) ?_ ?_
 ·cases t<;>simp [execOp,m6,ae,asBool]
 ·cases t
  ·exact hs y b' h3
  ·exact hs x a' h2
theorem Aqk (f:BinOp) (t:TypeId) (k k':IntKind) (x y:Int) (v:AV) (h:GF f k x k' y=some v) (w:World) : ∃ u,(binOp f t (.int k x) (.int k' y)).run P w = .ok u w/\((∃ n,v = .int k n/\u = .int k n) \/ ∃ b,v = .bool b/\u = .bool b):=by
 cases f<;>simp only[GF]at h;case shl =>
  split at h
  ·cases h
  ·rename_i hy;simp at h;subst h
   exact ⟨_,by simp [binOp,Op.shift,hy],.inl ⟨_,rfl,rfl⟩⟩
 case shr =>
  split at h
  ·cases h
  ·rename_i hy;simp at h;subst h
   exact ⟨_,by simp [binOp,Op.shift,hy],.inl ⟨_,rfl,rfl⟩⟩
 case quo =>
  split at h
  ·rename_i hy;obtain ⟨rfl,hy⟩:=hy;simp at h;subst h
   exact ⟨_,by simp [binOp,Op.intDiv,hy],.inl ⟨_,rfl,rfl⟩⟩
  ·cases h
 case rem =>
  split at h
  ·rename_i hy;obtain ⟨rfl,hy⟩:=hy;simp at h;subst h
   exact ⟨_,by simp [binOp,Op.intDiv,hy],.inl ⟨_,rfl,rfl⟩⟩
  ·cases h
 case and|or|xor|andNot =>
  all_goals
   split at h
   ·rename_i hk;subst hk;obtain rfl:=Option.some.inj h
    exact ⟨_,by simp only[binOp,ne_eq,not_true_eq_false,if_false];rfl,.inl ⟨_,rfl,rfl⟩⟩
   ·cases h
 case add|sub|mul =>
  all_goals
   split at h
   ·rename_i hk;subst hk;obtain rfl:=Option.some.inj h
    exact ⟨_,by simp [binOp,Op.intArith],.inl ⟨_,rfl,rfl⟩⟩
   ·cases h
 all_goals
  split at h
  ·rename_i hk;subst hk;obtain rfl:=Option.some.inj h
   exact ⟨_,by simp [binOp,Op.intCmp],.inr ⟨_,rfl,rfl⟩⟩
  ·cases h
theorem Aqe (f:BinOp) (t:TypeId) (x y:Operand) (k k':IntKind) (n n':Int) (w:World):(eqGuard f t x y (.int k n) (.int k' n')).run P w = .ok () w:=by
 unfold eqGuard;cases f<;>simp
theorem Aqf (f:BinOp) (t:TypeId) (x y:Operand) (b b':Bool) (w:World):(eqGuard f t x y (.bool b) (.bool b')).run P w = .ok () w:=by
 unfold eqGuard;cases f<;>simp
theorem AkG (hm:D8 B S w0 m) (hs:FX B S m ρ a.eval) {f:BinOp} {x' y':BL} (h:C4 P num o.op (.bin f x' y')=true) {k k':IntKind} {n n':Int} {v:AV} (hx:ρ x' = .int k n) (hy:ρ y' = .int k' n') (hv:GF f k n k' n'=some v) :
  F2 B S w0 P o a m (.val v):=by
 obtain ⟨t,x,y,u,m6,h1,h2⟩:=Aob h;have ex:=NU (hx ▸ hs x x' h1);have ey:=NU (hy ▸ hs y y' h2);obtain ⟨r,hr,fj⟩:=Aqk (P:=P) f t k k' n n' v hv m.w;refine IU hm (u:=r) ?_ ?_
 ·simp [execOp,m6,ex,ey,Aqe,hr]
 ·rcases fj with ⟨q,rfl,rfl⟩|⟨q,rfl,rfl⟩
  ·exact XL _ _
  ·exact pQ _
theorem Aqh (t:TypeId) (b b':Bool) (hu:P.underlying t=some .bool) (w:World):(Op.equal t (.bool b) (.bool b')).run P w = .ok (b == b') w:=by
 have h : ∀ d:Nat,(Op.equalIn (d+1) t (.bool b) (.bool b')).run P w = .ok (b == b') w:=λ d=>by
  unfold Op.equalIn;rw[Sem.run_bind,run_underlying hu];rfl
 exact h 9999
theorem AkF (hm:D8 B S w0 m) (hs:FX B S m ρ a.eval) {ne:Bool} {x' y':BL} (h:C4 P num o.op (.beq ne x' y')=true) {b b':Bool} (hx:ρ x' = .bool b) (hy:ρ y' = .bool b') :
  F2 B S w0 P o a m (.val (.bool (if ne then !(b == b') else b == b'))):=by
 obtain ⟨t,x,y,u,m6,hu,h1,h2⟩:=Aoa h;have ex:=bG (hx ▸ hs x x' h1);have ey:=bG (hy ▸ hs y y' h2);refine IU hm (u := .bool (if ne then !(b == b') else b == b')) ?_ (pQ _);cases ne<;>simp [execOp,m6,ex,ey,Aqf,binOp,Aqh t b b' hu]
theorem Alf (hm:D8 B S w0 m) (hs:FX B S m ρ a.eval) {f:UnOp} {x':BL} (h:C4 P num o.op (.un f x')=true) {v:AV} (hv:aL f (ρ x')=some v):F2 B S w0 P o a m (.val v):=by
 obtain ⟨t,x,m6,h1⟩:=Aow h;have hx:=hs x x' h1;unfold aL at hv;split at hv
 ·rename_i k n hk
  have ex:=NU (hk ▸ hx);split at hv
  ·obtain rfl:_=v:=by simpa using hv
   exact IU hm (by simp [execOp,m6,ex,Op.unary,Op.intArith]) (XL _ _)
  ·obtain rfl:_=v:=by simpa using hv
   exact IU hm (by simp only[execOp,m6,ex,Op.unary];rfl) (XL _ _)
  ·cases hv
 ·rename_i b hk
  have ex:=bG (hk ▸ hx);split at hv
  ·obtain rfl:_=v:=by simpa using hv
   exact IU hm (by simp [execOp,m6,ex,Op.unary]) (pQ _)
  ·cases hv
 ·cases hv
theorem AkQ (hm:D8 B S w0 m) (hs:FX B S m ρ a.eval) {k:IntKind} {x':BL} (h:C4 P num o.op (.conv k x')=true) {k':IntKind} {n:Int} (hx:ρ x' = .int k' n):F2 B S w0 P o a m (.val (.int k (k.wrap n))):=by
 obtain ⟨s,d,x,ds,m6,Fs,hd,h1⟩:=Aoj h;have ex:=NU (hx ▸ hs x x' h1);refine IU hm (u := .int k (k.wrap n)) ?_ (XL _ _);simp [execOp,m6,ex,convert,run_underlying Fs,run_underlying hd,Conv.intToInt]
theorem Aqi (t:TypeId) (a:Option Addr) (n c:Nat) {e:TypeId} (hu:P.underlying t=some (.slice e)) (w:World):(Op.equal t (.slice a n c) (.slice none 0 0)).run P w = .ok a.isNone w:=by
 have h : ∀ d:Nat,(Op.equalIn (d+1) t (.slice a n c) (.slice none 0 0)).run P w = .ok a.isNone w:=λ d=>by
  unfold Op.equalIn;rw[Sem.run_bind,run_underlying hu];cases a<;>rfl
 exact h 9999
theorem Aqg (f:BinOp) (t:TypeId) (x y:Operand) (a b:Option Addr) (n c n' c':Nat) (w:World):(eqGuard f t x y (.slice a n c) (.slice b n' c')).run P w = .ok () w:=by
 unfold eqGuard;cases f<;>simp
theorem oE (hm:D8 B S w0 m) (hs:FX B S m ρ a.eval) {ne:Bool} {x':BL} (h:C4 P num o.op (.wh ne x')=true) {b:Bool} (hx : ∀ v,CV B S m (ρ x') v -> ∃ ad n c,v = .slice ad n c/\ad.isNone=b) :
  F2 B S w0 P o a m (.val (.bool (xor b ne))):=by
 obtain ⟨t,x,u,e,m6,hu,h1⟩:=Aon h;obtain ⟨ad,n,c,ex,hb⟩:=hx _ (hs x x' h1);refine IU hm (u := .bool (xor b ne)) ?_ (pQ _);have e0:a.eval (.const (.slice none 0 0)) = .slice none 0 0:=rfl;cases ne<;>cases b<;>simp [execOp,m6,ex,e0,Aqg,binOp,Aqi t ad n c hu,hb]
theorem eG {v:Value} (h:CV B S m .nil v):v = .slice none 0 0:=by
 cases h with
 | ca h=>cases h with
  | one h=>cases h with
   | rd h=>cases h
   | nil=>rfl
theorem Zx {b:Bool} {v:Value} (h:CV B S m (.dc (.bool b)) v) : ∃ ad c,v = .slice ad 0 c/\ad.isNone=b:=by
 cases h with
 | ca h=>cases h with
  | one h=>cases h with
   | rd h=>cases h with
    | emp b a cap h=>exact ⟨a,cap,rfl,h⟩
theorem Akh {l:Bool} {e:List AV} {es:List (List AV)} {v:Value} (h:CV B S m (.sl l (e::es)) v) : ∃ ad n c,v = .slice ad n c/\ad.isNone=false:=by
 cases h with
 | ca h=>cases h with
  | one h=>cases h with
   | rd h=>cases h with
    | sl=>exact ⟨_,_,_,rfl,rfl⟩
theorem Akg {s t z off n:Nat} {v:Value} (h:CV B S m (.row s t z off (n+1)) v) : ∃ ad n c,v = .slice ad n c/\ad.isNone=false:=by
 cases h with
 | ca h=>cases h with
  | one h=>cases h with
   | rd h=>cases h
   | row _ _ _ _ _ a cap _ _ _ ha=>exact ⟨_,_,_,rfl,by have:=ha (by omega);cases a<;>simp_all⟩
theorem Alb (hm:D8 B S w0 m) (hs:FX B S m ρ a.eval) {tb:List Nat} {x':BL} (h:C4 P num o.op (.js tb x')=true) {k:IntKind} {n:Int} {v:Nat} (hx:ρ x' = .int k n) (h0:0<=n) (hv:tb[n.toNat]? = some v) :
  F2 B S w0 P o a m (.val (.int .u8 v)):=by
 obtain ⟨t,s,i,m6,hu,Ha,h1⟩:=Aot h;have ex:=NU (hx ▸ hs i x' h1);have hb : ∃ b:UInt8,s[n.toNat]? = some b/\b.toNat=v:=by
  rw[<-Ha,List.getElem?_map]at hv;cases hg:s.data.toList[n.toNat]? with
  | none=>simp [hg]at hv
  | some b =>
   simp only[hg,Option.map_some,Option.some.injEq]at hv;refine ⟨b,?_,hv⟩;have l7:n.toNat<s.size:=by
    have:=(zS hg).1
    simpa using this
   rw[getElem?_pos s n.toNat l7];congr 1;have:=(zS hg).2
   rw[<-this];rfl
 obtain ⟨b,Br,z7⟩:=hb;refine IU hm (u := .int .u8 v) ?_ (XL _ _);have e0:a.eval (.const (.string s)) = .string s:=rfl;simp [execOp,m6,ex,e0,Instr.index,asIntOf,run_underlying hu,h0,Br,z7]
theorem Apq {x c:AV} {v:Value} (h:CV B S m x v) (hc:L3 x=some c):CC B S m c v:=by
 cases h with
 | any=>simp [L3]at hc
 | g8=>simp [L3]at hc
 | ca h=>cases h with
  | agg=>simp [L3]at hc
  | fn=>simp [L3]at hc
  | yf=>simp [L3]at hc
  | one h =>
   have:c=x:=by
    cases h with
    | rd h=>cases h<;>simp [L3]at hc<;>exact hc.symm
    | _=>simp [L3]at hc;exact hc.symm
   subst this;exact h
theorem Acn (hs:FX B S m ρ a.eval) : ∀ {xs:List Operand} {s8:List BL} {cs:List AV},IA xs s8=true->s8.mapM (λ x=>L3 (ρ x))=some cs->CL B S m cs (xs.map a.eval)
 | [],[],cs,_,h=>by
  simp at h;subst h;exact ⟨rfl,λ j c v h=>by simp at h⟩
 | x::r,y::l,cs,h,hc=>by
  simp only[IA,Bool.and_eq_true]at h;simp only[List.mapM_cons,Option.bind_eq_bind,Option.pure_def]at hc;cases h1:L3 (ρ y) with
  | none=>simp [h1]at hc
  | some c =>
   cases h2:l.mapM (λ x=>L3 (ρ x)) with
   | none=>simp [h1,h2]at hc
   | some gp =>
    simp [h1,h2]at hc;subst hc;have ih:=Acn hs h.2 h2;refine ⟨by simpa using ih.1,λ j c' v hj hv => ?_⟩;cases j with
    | zero =>
     simp at hj hv;subst hj hv;exact Apq (hs x y h.1) h1
    | succ j=>exact ih.2 j c' v (by simpa using hj) (by simpa using hv)
 | [],_::_,_,h,_=>by simp [IA]at h
 | _::_,[],_,h,_=>by simp [IA]at h
theorem Ak7 (hm:D8 B S w0 m) (hs:FX B S m ρ a.eval) {p:Bool} {f:Nat} {s8:List BL} (h:C4 P num o.op (.td p f s8)=true) {cs:List AV} (hc:s8.mapM (λ x=>L3 (ρ x))=some cs) :
  F2 B S w0 P o a m (.val (.fn (p&&cs.isEmpty) f (num f) cs)):=by
 obtain ⟨first,xs,m6,rfl,he⟩:=Aoq h;have o6:=Acn hs he hc;have ji:(xs.map a.eval)=(xs.toList.map a.eval).toArray:=by cases xs;simp
 refine IU hm (u := .func (.func (num f)) #[] (xs.toList.map a.eval).toArray) ?_ (.ca (.fn (p&&cs.isEmpty) f (num f) cs _ (λ h=>by simpa using (Bool.and_eq_true _ _ ▸ h:p=true/\cs.isEmpty=true).2) o6));simp [execOp,m6,Instr.makeFunc,ji]
end
end Go.b8

namespace Go.b8
open Go.RowKit
section
variable {B:Nat} {S:Nat->Prop} {w0:World} {m:M}
variable {P:Program} {num:Nat->Nat} {o:Oper} {a:Act} {ρ:BL->AV}
theorem eF {cs:List AV} {vs:List Value} (h:CL B S m cs vs) {j:Nat} {c:AV} (hj:cs[j]? = some c) : ∃ u,vs[j]? = some u/\CC B S m c u:=by
 have l7:j<cs.length:=(zS hj).1;have zm:j<vs.length:=by rw[<-h.1];exact l7
 exact ⟨vs[j],zE zm,h.2 j c _ hj (zE zm)⟩
theorem Apf {s:Nat} {b:HU} {w':World} {g:Nat}:CV B S ⟨j6 m s (some g),m.own.put s ((m.own s).new b),w'⟩ (.ptr s (m.own.j5 s) 0 0) (.pointer (some ⟨g,0,none⟩)):=by
 refine .ca (.one (.ptr s (m.own.j5 s) 0 0 ⟨g,0,none⟩ ?_ λ b' m4=>⟨g,?_,by simp⟩))
 ·show _<BD.j5 _ s
  rw[QL];simp
 ·simp [j6]
theorem AbZ (hm:D8 B S w0 m) (s:Nat) (cs:List AV) (vs:Array Value) (e:TypeId) (hc:CL B S m cs vs.toList) (h:(execOp a.eval o).run P m.w = .ok (.value (.pointer (some ⟨m.w.heap.size,0,none⟩))) (m.w.alloc (.cells vs e))) :
  F2 B S w0 P o a m (.new s ⟨cs.length,[cs]⟩ (λ t => .ptr s t 0 0)):=by
 intro K Q hK;obtain ⟨h1,h2⟩:=sV hm s ⟨cs.length,[cs]⟩ vs e (by simp) (λ i gp hi j c hj=>by
  cases i with
  | zero =>
   obtain rfl:cs=gp:=by simpa using hi
   obtain ⟨u,hu,aj⟩:=eF hc hj;exact ⟨u,by simpa using hu,aj⟩
  | succ i=>simp at hi)
 exact WQ h (hK _ ⟨j6 m s (some m.w.heap.size),m.own.put s ((m.own s).new ⟨cs.length,[cs]⟩),m.w.alloc (.cells vs e)⟩ rfl h1 h2 Apf)
theorem AkH (hm:D8 B S w0 m) (hs:FX B S m ρ a.eval) {s:Nat} {x':BL} (h:C4 P num o.op (.box s x')=true) {cs:List AV} (hc:cellsOf (ρ x')=some cs) :
  F2 B S w0 P o a m (.new s ⟨cs.length,[cs]⟩ (λ t => .ptr s t 0 0)):=by
 obtain ⟨t,x,m6,h1⟩:=Aoc h;exact AbZ hm s cs (a.eval x).cells t (nW (hs x x' h1) hc) (by simp [execOp,m6,Instr.box,newVar,newRow])
theorem AkC (hm:D8 B S w0 m) {s:Nat} {z:List AV} (h:C4 P num o.op (.alloc s z)=true):F2 B S w0 P o a m (.new s ⟨z.length,[z]⟩ (λ t => .ptr s t 0 0)):=by
 obtain ⟨t,m6,h1⟩:=An9 h;obtain ⟨i,v,hi,hz,he⟩:=Qx h1;exact AbZ hm s z v.cells t (eJ he) (by simp [execOp,m6,Instr.alloc,zeroValue,typeInfo,hi,hz,newVar,newRow])
theorem vX (off:Nat) : ∀ (vs:List Value) (k:Nat) (cells:Array Value),off+k+vs.length<=cells.size ->
  ((vs.zipIdx k).foldl (λ cs (x:Value × Nat)=>cs.setIfInBounds (off+x.2) x.1) cells).toList=cells.toList.take (off+k)++vs++cells.toList.drop (off+k+vs.length)
 | [],k,cells,_=>by simp
 | v::r,k,cells,h=>by
  simp only[List.length_cons]at h;rw[List.zipIdx_cons,List.foldl_cons,vX off r (k+1) _ (by simp;omega)];simp only[Array.toList_setIfInBounds,List.length_cons];apply List.ext_getElem?;intro q;have e1:(cells.toList.set (off+k) v).drop (off+(k+1)+r.length)=cells.toList.drop (off+k+(r.length+1)):=by
   rw[show off+(k+1)+r.length=off+k+(r.length+1) by omega];exact List.drop_set_of_lt (by omega)
  have e2:(cells.toList.set (off+k) v).take (off+(k+1))=cells.toList.take (off+k)++[v]:=by
   rw[show off+(k+1)=off+k+1 by omega,List.take_succ_eq_append_getElem (by simp;omega)];simp [List.take_set_of_le]
  rw[e1,e2];simp
theorem vL (place:Nat->Option (Nat × Nat)) (hs:FX B S m ρ a.eval) : ∀ (ps:List (Nat × Operand)) (gk:List (Nat × Nat × BL)) (cs gp:List AV) (vs:Array Value),cL place ps gk=true->CL B S m cs vs.toList ->
  fill cs (gk.map λ p=>(p.1,p.2.1,ρ p.2.2))=some gp -> ∃ dd,Instr.fill place vs (ps.map λ p=>(p.1,a.eval p.2))=some dd/\CL B S m gp dd.toList
 | [],[],cs,gp,vs,_,hc,hf=>by
  simp [fill]at hf;subst hf;exact ⟨vs,rfl,hc⟩
 | (i,x)::r,(off,n,y)::l,cs,gp,vs,hp,hc,hf=>by
  simp only[cL,Bool.and_eq_true,beq_iff_eq]at hp;obtain ⟨⟨Vs,Pj⟩,hp3⟩:=hp;simp only[List.map_cons,fill]at hf;cases hcell:cellsOf (ρ y) with
  | none=>simp [hcell]at hf
  | some us =>
   simp only[hcell]at hf;split at hf
   ·rename_i hn
    obtain ⟨hn1,Vl⟩:=hn;have du:=nW (hs x y Pj) hcell;have z8:(a.eval x).cells.size=n:=by rw[<-hn1,du.1];simp
    have Gm:off+(a.eval x).cells.size<=vs.size:=by rw[z8];have:=hc.1;simp at this;omega
    have yx:=vX off (a.eval x).cells.toList 0 vs (by simpa using Gm);have fm:Instr.fill place vs (((i,x)::r).map λ p=>(p.1,a.eval p.2))=Instr.fill place ((a.eval x).cells.zipIdx.foldl (λ cs (c,j)=>cs.setIfInBounds (off+j) c) vs) (r.map λ p=>(p.1,a.eval p.2)):=by
     simp only[List.map_cons,Instr.fill,Vs];rw[if_neg (by simp;omega)]
    rw[fm];refine vL place hs r l (splice cs off us) gp _ hp3 ?_ hf;have hz:((a.eval x).cells.zipIdx.foldl (λ cs (c,j)=>cs.setIfInBounds (off+j) c) vs).toList=vs.toList.take off++(a.eval x).cells.toList++vs.toList.drop (off+(a.eval x).cells.toList.length):=by
     rw[<-Array.foldl_toList];simpa using yx
    rw[hz];unfold splice;refine ⟨?_,λ j c v hj hv => ?_⟩
    ·have:=hc.1;have:=du.1;simp at *;omega
    ·have iq:=hc.1
     have jg:=du.1;simp only[Array.length_toList]at iq jg;rw[List.getElem?_append]at hj hv;simp only[List.length_append,List.length_take,Array.length_toList]at hj hv;rw[List.getElem?_append]at hj hv;simp only[List.length_take,Array.length_toList]at hj hv;have ki:min off cs.length=off:=by omega
     have er:min off vs.size=off:=by omega
     rw[ki]at hj;rw[er]at hv;rw[<-jg]at hv;split at hj
     ·rename_i h1
      rw[if_pos h1]at hv;split at hj
      ·rename_i h2
       rw[if_pos h2]at hv;rw[List.getElem?_take]at hj hv;rw[if_pos h2]at hj hv;exact hc.2 j c v hj hv
      ·rename_i h2
       rw[if_neg h2]at hv;exact du.2 _ c v hj hv
     ·rename_i h1
      rw[if_neg h1]at hv;rw[List.getElem?_drop]at hj hv;exact hc.2 _ c v hj hv
   ·cases hf
 | [],_::_,_,_,_,hp,_,_=>by simp [cL]at hp
 | _::_,[],_,_,_,hp,_,_=>by simp [cL]at hp
theorem AkJ (hm:D8 B S w0 m) (hs:FX B S m ρ a.eval) {z:List AV} {gk:List (Nat × Nat × BL)} (h:C4 P num o.op (.build z gk)=true) {cs:List AV} (hf:fill z (gk.map λ p=>(p.1,p.2.1,ρ p.2.2))=some cs) :
  F2 B S w0 P o a m (.val (.agg cs)):=by
 obtain ⟨t,ps,m6,h1,h2⟩:=Aoe h;obtain ⟨i,v,hi,hz,he⟩:=Qx h1;have key : ∃ dd,P.built t (ps.map λ p=>(p.1,a.eval p.2)).toList=some dd/\CL B S m cs dd.toList:=by
  unfold tG at h2;unfold Program.built;split at h2
  ·rename_i fs hu
   split at h2
   ·rename_i places hp
    obtain ⟨dd,h3,h4⟩:=vL _ hs ps.toList gk z cs v.cells h2 (eJ he) hf;refine ⟨dd,?_,h4⟩;simp only[hi,hu,hz,hp,Array.toList_map];exact h3
   ·cases h2
  ·rename_i n e hu
   split at h2
   ·rename_i ie Us
    obtain ⟨dd,h3,h4⟩:=vL _ hs ps.toList gk z cs v.cells h2 (eJ he) hf;refine ⟨dd,?_,h4⟩;simp only[hi,hu,hz,Us,Array.toList_map];exact h3
   ·cases h2
  ·cases h2
 obtain ⟨dd,h3,h4⟩:=key;refine IU hm (u := .agg dd) ?_ (.ca (by simpa using CA.agg cs dd.toList h4));simp only[execOp,m6,Sem.run_bind];rw[run_build m.w t _ dd h3];rfl
theorem Ads (size:Nat) (hs:FX B S m ρ a.eval) : ∀ (ps:List (Nat × Operand)) (gk:List BL) (k:Nat) (es:List (List AV)) (vs:Array Value),bL k ps gk=true->gk.mapM (λ x=>cellsOf (ρ x))=some es->(∀ e∈es,e.length=size)->vs.size=(k+gk.length)*size ->
  ∃ dd,Instr.fill (λ i=>some (i*size,size)) vs (ps.map λ p=>(p.1,a.eval p.2))=some dd/\dd.size=vs.size/\(∀ q,q<k*size->dd[q]? = vs[q]?) /\ ∀ i cs,es[i]? = some cs -> ∀ j c,cs[j]? = some c -> ∃ u,dd[(k+i)*size+j]? = some u/\CC B S m c u
 | [],[],k,es,vs,_,mb,_,_=>by
  simp at mb;subst mb;exact ⟨vs,rfl,rfl,λ_ _=>rfl,λ i cs hi=>by simp at hi⟩
 | (i,x)::r,y::l,k,es,vs,he,mb,hz,hv=>by
  simp only[bL,Bool.and_eq_true,beq_iff_eq]at he;obtain ⟨⟨rfl,h1⟩,h2⟩:=he;simp only[List.mapM_cons,Option.bind_eq_bind,Option.pure_def]at mb;cases hcell:cellsOf (ρ y) with
  | none=>simp [hcell]at mb
  | some us =>
   cases fk:l.mapM (λ x=>cellsOf (ρ x)) with
   | none=>simp [hcell,fk]at mb
   | some es' =>
    simp [hcell,fk]at mb;subst mb;have du:=nW (hs x y h1) hcell;have hus:us.length=size:=hz us (by simp);have z8:(a.eval x).cells.size=size:=by rw[<-hus,du.1];simp
    simp only[List.length_cons]at hv;have hle:i*size+size<=vs.size:=by rw[hv,show i+(l.length+1)=i+1+l.length by omega,Nat.add_mul,Nat.add_mul];omega
    have yx:=vX (i*size) (a.eval x).cells.toList 0 vs (by simp [z8];omega);generalize Mr:(a.eval x).cells.zipIdx.foldl (λ cs (c,j)=>cs.setIfInBounds (i*size+j) c) vs=Jl;have ni:Jl.toList=vs.toList.take (i*size)++(a.eval x).cells.toList++vs.toList.drop (i*size+size):=by
     rw[<-Mr,<-Array.foldl_toList];simpa [z8] using yx
    have Ed:Jl.size=vs.size:=by
     have:=congrArg List.length ni
     simp [z8]at this;omega
    obtain ⟨dd,h3,h4,h5,h6⟩:=Ads size hs r l (i+1) es' Jl h2 fk (λ e he=>hz e (by simp [he])) (by rw[Ed,hv];congr 1;omega);refine ⟨dd,?_,h4.trans Ed,λ q hq => ?_,λ i' cs u5 j c hj => ?_⟩
    ·simp only[List.map_cons,Instr.fill]
     rw[if_neg (by simp [z8];omega),Mr];exact h3
    ·rw[h5 q (by rw[Nat.add_mul];omega)]
     have:Jl.toList[q]? = vs.toList[q]? := by
      rw[ni,List.append_assoc,List.getElem?_append_left (by simp;omega),List.getElem?_take,if_pos hq]
     simpa using this
    ·cases i' with
     | zero =>
      obtain rfl:us=cs:=by simpa using u5
      obtain ⟨u,hu,aj⟩:=eF du hj;have gu:j<size:=by rw[<-hus];exact (zS hj).1
      refine ⟨u,?_,aj⟩;rw[Nat.add_zero,h5 _ (by rw[Nat.add_mul];omega)];have:Jl.toList[i*size+j]? = some u:=by
       rw[ni,List.append_assoc,List.getElem?_append_right (by simp;omega)];simp only[List.length_take,Array.length_toList,show min (i*size) vs.size=i*size by omega,show i*size+j-i*size=j by omega];rw[List.getElem?_append_left (by simp [z8];omega)];exact hu
      simpa using this
     | succ i' =>
      obtain ⟨u,hu,aj⟩:=h6 i' cs (by simpa using u5) j c hj;exact ⟨u,by rw[show i+(i'+1)=i+1+i' by omega];exact hu,aj⟩
 | [],_::_,_,_,_,he,_,_,_=>by simp [bL]at he
 | _::_,[],_,_,_,he,_,_,_=>by simp [bL]at he
theorem AeS {s z n cap:Nat} {es:List (List AV)} {w':World} {g:Nat} {arr:Array Value} {e:TypeId} (hz:0<z) (hn:n<=cap) (hg:w'.heap[g]? = some (.cells arr e (0,0))) (hc:cap*z<=arr.size) :
  CV B S ⟨j6 m s (some g),m.own.put s ((m.own s).new ⟨z,es⟩),w'⟩ (.row s (m.own.j5 s) z 0 n) (.slice (some ⟨g,0,none⟩) n cap):=by
 refine .ca (.one (.row s (m.own.j5 s) z 0 n _ cap ?_ hz hn (λ_=>rfl) λ b' m4=>⟨?_,.inr ⟨g,arr,e,?_,by simp,hg,by simpa using hc⟩⟩))
 ·show _<BD.j5 _ s
  rw[QL];simp
 ·change BD.get _ s _=some b' at m4
  rw[K4,if_pos ⟨rfl,rfl⟩]at m4;obtain rfl:(⟨z,es⟩:HU)=b':=by simpa using m4
  rfl
 ·simp [j6]
theorem Zi (hm:D8 B S w0 m) (s z n cap:Nat) (es:List (List AV)) (vs:Array Value) (e:TypeId) (ff:0<z) (hn:n<=cap) (z8:cap*z<=vs.size) (hz : ∀ x∈es,x.length=z)
  (hc : ∀ i cs,es[i]? = some cs -> ∀ j c,cs[j]? = some c -> ∃ u,vs[i*z+j]? = some u/\CC B S m c u)
  (h:(execOp a.eval o).run P m.w = .ok (.value (.slice (some ⟨m.w.heap.size,0,none⟩) n cap)) (m.w.alloc (.cells vs e))) :
  F2 B S w0 P o a m (.new s ⟨z,es⟩ (λ t => .row s t z 0 n)):=by
 intro K Q hK;obtain ⟨h1,h2⟩:=sV hm s ⟨z,es⟩ vs e hz hc;exact WQ h (hK _ ⟨j6 m s (some m.w.heap.size),m.own.put s ((m.own s).new ⟨z,es⟩),m.w.alloc (.cells vs e)⟩ rfl h1 h2 (AeS ff hn (heap_alloc_new _ _) z8))
theorem AkI (hm:D8 B S w0 m) (hs:FX B S m ρ a.eval) {s a7:Nat} {gk:List BL} (h:C4 P num o.op (.a8 s a7 gk)=true) {es:List (List AV)} (mb:gk.mapM (λ x=>cellsOf (ρ x))=some es) (hz : ∀ e∈es,e.length=a7) :
  F2 B S w0 P o a m (.new s ⟨a7,es⟩ (λ t => .row s t a7 0 es.length)):=by
 obtain ⟨t,n,ps,e,i,m6,hu,hi,z8,h0,hn,Wo,dp,hzero⟩:=Aod h;have hlen:es.length=n:=by
  rw[hn];clear h dp hzero hn;induction gk generalizing es with
  | nil=>simp at mb;subst mb;rfl
  | cons y l ih =>
   simp only[List.mapM_cons,Option.bind_eq_bind,Option.pure_def]at mb;cases hcell:cellsOf (ρ y) with
   | none=>simp [hcell]at mb
   | some us =>
    cases fk:l.mapM (λ x=>cellsOf (ρ x)) with
    | none=>simp [hcell,fk]at mb
    | some es' =>
     simp [hcell,fk]at mb;subst mb;simp [ih fk (λ e he=>hz e (by simp [he]))]
 obtain ⟨zc,Cz⟩ : ∃ zc:Array Value,(n*a7=0/\zc = #[])\/(¬ n*a7=0 /\ ∃ z,i.zero=some z/\zc=z.cells):=by
  by_cases m7:n*a7=0
  ·exact ⟨#[],.inl ⟨m7,rfl⟩⟩
  ·rcases hzero with Bi|⟨z,ni,sz⟩
   ·simp [Bi]at m7
   ·exact ⟨z.cells,.inr ⟨m7,z,ni,rfl⟩⟩
 have Mz:((Array.range (n*a7)).map (zc[· % zc.size]!)).size=n*a7:=by simp
 obtain ⟨dd,h3,h4,_,h6⟩:=Ads a7 hs ps.toList gk 0 es _ dp mb hz (by rw[Mz,hn];simp);have w4:(execOp a.eval o).run P m.w = .ok (.value (.slice (some ⟨m.w.heap.size,0,none⟩) n n)) (m.w.alloc (.cells dd e)):=by
  simp only[execOp,m6,Instr.buildSlice,Sem.run_bind,run_underlying hu,Result.andThen_ok,sizeOf,typeInfo,run_program,hi,Sem.run_pure,z8];simp only[show ¬ (n*a7>2^24) from by omega,if_false,Sem.run_bind,Sem.run_pure,Result.andThen_ok];rcases Cz with ⟨Bi,rfl⟩|⟨Bi,z,ni,rfl⟩
  ·simp only[Bi,if_true,Sem.run_bind,Sem.run_pure,Result.andThen_ok,Array.toList_map]
   rw[Bi]at h3;rw[h3];rfl
  ·simp only[Bi,if_false,Sem.run_bind,Sem.run_pure,Result.andThen_ok,Array.toList_map,zeroValue,typeInfo,run_program,hi,ni]
   rw[h3];rfl
 rw[hlen];exact Zi hm s a7 n n es dd e (Nat.pos_of_ne_zero h0) (Nat.le_refl _) (by rw[h4,Mz];exact Nat.le_refl _) hz (λ i cs u5 j c hj=>by simpa using h6 i cs u5 j c hj) w4
end
end Go.b8

namespace Go.b8
open Go.RowKit
section
variable {B:Nat} {S:Nat->Prop} {w0:World} {m:M}
variable {P:Program} {num:Nat->Nat} {o:Oper} {a:Act} {ρ:BL->AV}
theorem nV {x:AV} {v:Value} (h:CV B S m x v) (h1:x ≠ .any) (h2 : ∀ cs,x ≠ .agg cs) (h3 : ∀ cs,x ≠ .g8 cs) (h4 : ∀ p f g cs,x ≠ .fn p f g cs:=by intros;simp):CC B S m x v:=by
 cases h with
 | any=>exact absurd rfl h1
 | g8 as=>exact absurd rfl (h3 as)
 | ca h=>cases h with
  | one h=>exact h
  | agg cs=>exact absurd rfl (h2 cs)
  | fn p f g cs=>exact absurd rfl (h4 p f g cs)
  | yf f g cs=>exact absurd rfl (h4 true f g cs)
theorem jI {s t i j:Nat} {v:Value} (h:CV B S m (.ptr s t i j) v) : ∃ ad,v = .pointer (some ad)/\t<m.own.j5 s /\ ∀ b,m.own.get s t=some b -> ∃ g,m.ν s t=some g/\ad=⟨g,i*b.a7+j,none⟩:=by
 cases nV h (by simp) (by simp) (by simp) with
 | rd h=>cases h
 | ptr s t i j ad ht h'=>exact ⟨ad,rfl,ht,h'⟩
theorem tS {cs:List AV} {v:Value} (h:CV B S m (.y9 cs) v) : ∃ (b o:Nat) (u:Nat->Value) (l:Bool),v = .pointer (some ⟨b,o,none⟩)/\(cs≠[]->safe B S m l b)/\(∀ j c,cs[j]? = some c->m.w.cell? ⟨b,o+j,none⟩=some (u j))/\(∀ j c,cs[j]? = some c->Rd m.w (safe B S m) c (u j)):=by
 cases nV h (by simp) (by simp) (by simp) with
 | rd h=>cases h
 | y9 _ b o u l h1 h2 h3=>exact ⟨b,o,u,l,rfl,h1,h2,h3⟩
theorem bH {s t z off len:Nat} {v:Value} (h:CV B S m (.row s t z off len) v) : ∃ (ad:Option Addr) (cap:Nat),v = .slice ad len cap/\t<m.own.j5 s/\0<z/\len<=cap/\(0<len->ad.isSome=true) /\
  ∀ b,m.own.get s t=some b->b.a7=z/\((len=0/\cap=0) \/ ∃ g arr e,m.ν s t=some g/\ad=some ⟨g,off*z,none⟩/\m.w.heap[g]? = some (.cells arr e (0,0))/\(off+cap)*z<=arr.size):=by
 cases nV h (by simp) (by simp) (by simp) with
 | rd h=>cases h
 | row s t z off len ad cap ht ff ke ha h'=>exact ⟨ad,cap,rfl,ht,ff,ke,ha,h'⟩
theorem nX {l:Bool} {es:List (List AV)} {v:Value} (h:CV B S m (.sl l es) v):Rd m.w (safe B S m) (.sl l es) v:=by
 cases nV h (by simp) (by simp) (by simp) with
 | rd h=>exact h
theorem AkX (hm:D8 B S w0 m) (hs:FX B S m ρ a.eval) {x':BL} {off:Nat} (h:C4 P num o.op (.k7 x' off)=true) {s t i j:Nat} (hx:ρ x' = .ptr s t i j):F2 B S w0 P o a m (.val (.ptr s t i (j+off))):=by
 obtain ⟨ty,x,f,fs,fd,inf,m6,h1,hu,hf,ho,hi,z8⟩:=Ad5 h;obtain ⟨ad,hv,ht,hb⟩:=jI (hx ▸ hs x x' h1);refine IU hm (u := .pointer (some (ad.add off))) ?_ (.ca (.one (.ptr s t i (j+off) _ ht λ b m4 => ?_)))
 ·simp [execOp,m6,hv,Instr.fieldAt,run_underlying hu,hf,Instr.sureAddr,fieldPlace,sizeOf,typeInfo,hi,z8,ho]
 ·obtain ⟨g,hg,rfl⟩:=hb b m4
  exact ⟨g,hg,by rw[MO];simp;omega⟩
theorem AkW (hm:D8 B S w0 m) (hs:FX B S m ρ a.eval) {x':BL} {off:Nat} (h:C4 P num o.op (.k7 x' off)=true) {cs:List AV} (hx:ρ x' = .y9 cs):F2 B S w0 P o a m (.val (.y9 (cs.drop off))):=by
 obtain ⟨ty,x,f,fs,fd,inf,m6,h1,hu,hf,ho,hi,z8⟩:=Ad5 h;obtain ⟨b,ob,u,l,hv,hR,hc,hr⟩:=tS (hx ▸ hs x x' h1);refine IU hm (u := .pointer (some ⟨b,ob+off,none⟩)) ?_ (.ca (.one (.y9 _ b (ob+off) (λ j=>u (off+j)) l (λ m7=>hR (λ e=>m7 (by simp [e]))) (λ j c hj => ?_) (λ j c hj => ?_))))
 ·simp [execOp,m6,hv,Instr.fieldAt,run_underlying hu,hf,Instr.sureAddr,fieldPlace,sizeOf,typeInfo,hi,z8,ho,MO]
 ·rw[List.getElem?_drop]at hj
  rw[Nat.add_assoc];exact hc _ c hj
 ·rw[List.getElem?_drop]at hj
  exact hr _ c hj
theorem pZ {agg:Bool} {cs:List AV} {v:AV} (h:P4 agg cs=some v) {vs:List Value} (hc:CL B S m cs vs):CV B S m v (if agg then .agg vs.toArray else vs.getD 0 undef)/\(agg=false->vs.length=1):=by
 unfold P4 at h;cases agg with
 | true =>
  obtain rfl:AV.agg cs=v:=by simpa using h
  exact ⟨.ca (.agg cs vs hc),by simp⟩
 | false =>
  simp only[Bool.false_eq_true,if_false]at h;split at h
  ·rename_i c
   obtain rfl:c=v:=by simpa using h
   obtain ⟨u,hu,aj⟩:=eF hc (j:=0) (c:=c) rfl;refine ⟨?_,λ_=>by rw[<-hc.1];rfl⟩;simp only[Bool.false_eq_true,if_false,List.getD,hu,Option.getD_some];exact .ca (.one aj)
  ·cases h
theorem Aql (t:TypeId) (agg:Bool) (inf:TypeInfo) (lq : ∀ w,(isAgg t).run P w = .ok agg w) (hi:P.info? t=some inf) (vs:List Value) (off n:Nat) (hn:inf.size=n) (hle:off+n<=vs.length) (h1:agg=false->n=1) (w:World) :
  (Go.part t vs.toArray off).run P w = .ok (if agg then .agg ((vs.drop off).take n).toArray else ((vs.drop off).take n).getD 0 undef) w:=by
 unfold Go.part;rw[Sem.run_bind,lq w];cases agg with
 | true=>simp [sizeOf,typeInfo,hi,hn,List.extract_eq_take_drop]
 | false =>
  have l7:off<vs.length:=by have:=h1 rfl;omega
  simp [l7,h1 rfl]
theorem AkY (hm:D8 B S w0 m) (hs:FX B S m ρ a.eval) {x':BL} {off n:Nat} {agg:Bool} (h:C4 P num o.op (.rn x' off n agg)=true) {cs ds:List AV} {v:AV} (hx:ρ x' = .agg cs) (hp:part cs off n=some ds) (hv:P4 agg ds=some v) :
  F2 B S w0 P o a m (.val v):=by
 obtain ⟨ty,x,f,fs,fd,inf,m6,h1,hu,hf,ho,hi,z8,lq,h0⟩:=Aom h;obtain ⟨vs,db,o6⟩:=Akc (hx ▸ hs x x' h1);unfold b8.part at hp;split at hp
 ·rename_i hle
  obtain rfl:(cs.drop off).take n=ds:=by simpa using hp
  obtain ⟨ae,od⟩:=pZ hv (AjL o6 off n);have hl:=o6.1;have um:agg=false->n=1:=λ e=>by have:=od e;simp at this;omega
  refine IU hm ?_ ae;simp only[execOp,m6,Sem.run_bind,Instr.field,run_underlying hu,Result.andThen_ok,hf,db,asAgg,Sem.run_pure,ho];rw[Aql fd.type agg inf lq hi vs off n z8 (by omega) um];rfl
 ·cases hp
theorem AkZ (hm:D8 B S w0 m) (hs:FX B S m ρ a.eval) {len a7:Nat} {x' i':BL} (h:C4 P num o.op (.v7 (some len) a7 x' i')=true) {k:IntKind} {n:Int} {s t i0 j:Nat} (u5:ρ i' = .int k n) (hx:ρ x' = .ptr s t i0 j) (h0:0<=n) (hn:n<len) :
  F2 B S w0 P o a m (.val (.ptr s t i0 (j+n.toNat*a7))):=by
 obtain ⟨ty,x,i,e,inf,m6,h1,h2,hi,z8,fj⟩:=pJ h;rcases fj with ⟨wk,hl,hu,l7⟩|⟨hl,_⟩
 ·obtain rfl:len=wk:=by simpa using hl
  obtain ⟨ad,hv,ht,hb⟩:=jI (hx ▸ hs x x' h1);have Ax:=NU (u5 ▸ hs i i' h2);refine IU hm (u := .pointer (some (ad.add (n.toNat*a7)))) ?_ (.ca (.one (.ptr s t i0 (j+n.toNat*a7) _ ht λ b m4 => ?_)))
  ·simp [execOp,m6,hv,Ax,Instr.indexAt,asIntOf,run_underlying hu,Instr.sureAddr,sizeOf,typeInfo,hi,z8,h0,hn]
  ·obtain ⟨g,hg,rfl⟩:=hb b m4
   exact ⟨g,hg,by rw[MO];simp;omega⟩
 ·cases hl
theorem Ak0 (hm:D8 B S w0 m) (hs:FX B S m ρ a.eval) {len a7:Nat} {x' i':BL} (h:C4 P num o.op (.v7 (some len) a7 x' i')=true) {k:IntKind} {n:Int} {cs:List AV} (u5:ρ i' = .int k n) (hx:ρ x' = .y9 cs) (h0:0<=n) (hn:n<len) :
  F2 B S w0 P o a m (.val (.y9 (cs.drop (n.toNat*a7)))):=by
 obtain ⟨ty,x,i,e,inf,m6,h1,h2,hi,z8,fj⟩:=pJ h;rcases fj with ⟨wk,hl,hu,l7⟩|⟨hl,_⟩
 ·obtain rfl:len=wk:=by simpa using hl
  obtain ⟨b,ob,u,l,hv,hR,hc,hr⟩:=tS (hx ▸ hs x x' h1);have Ax:=NU (u5 ▸ hs i i' h2);refine IU hm (u := .pointer (some ⟨b,ob+n.toNat*a7,none⟩)) ?_ (.ca (.one (.y9 _ b (ob+n.toNat*a7) (λ j=>u (n.toNat*a7+j)) l (λ m7=>hR (λ e=>m7 (by simp [e]))) (λ j c hj => ?_) (λ j c hj => ?_))))
  ·simp [execOp,m6,hv,Ax,Instr.indexAt,asIntOf,run_underlying hu,Instr.sureAddr,sizeOf,typeInfo,hi,z8,h0,hn,MO]
  ·rw[List.getElem?_drop]at hj
   rw[Nat.add_assoc];exact hc _ c hj
  ·rw[List.getElem?_drop]at hj
   exact hr _ c hj
 ·cases hl
theorem AfK (ty e:TypeId) (inf:TypeInfo) (hu:P.underlying ty=some (.slice e)) (hi:P.info? e=some inf) (ad:Addr) (len cap:Nat) (k:IntKind) (n:Int) (h0:0<=n) (hn:n<len) (w:World) :
  (Instr.indexAt ty (.slice (some ad) len cap) (.int k n)).run P w = .ok (.pointer (some (ad.add (n.toNat*inf.size)))) w:=by
 simp [Instr.indexAt,asIntOf,run_underlying hu,sizeOf,typeInfo,hi,h0,hn]
theorem Ak1 (hm:D8 B S w0 m) (hs:FX B S m ρ a.eval) {a7:Nat} {x' i':BL} (h:C4 P num o.op (.v7 none a7 x' i')=true) {k:IntKind} {n:Int} {s t z off len:Nat} (u5:ρ i' = .int k n) (hx:ρ x' = .row s t z off len) (h0:0<=n) (hn:n<len) (hz:z=a7) :
  F2 B S w0 P o a m (.val (.ptr s t (off+n.toNat) 0)):=by
 obtain ⟨ty,x,i,e,inf,m6,h1,h2,hi,z8,fj⟩:=pJ h;rcases fj with ⟨_,hl,_⟩|⟨_,hu,_⟩
 ·cases hl
 ·obtain ⟨ad,cap,hv,ht,ff,ke,ha,hb⟩:=bH (hx ▸ hs x x' h1)
  have Ax:=NU (u5 ▸ hs i i' h2);obtain ⟨Hk,rfl⟩:=Option.isSome_iff_exists.1 (ha (by omega));refine IU hm (u := .pointer (some (Hk.add (n.toNat*a7)))) ?_ (.ca (.one (.ptr s t (off+n.toNat) 0 _ ht λ b m4 => ?_)))
  ·simp only[execOp,m6,hv,Ax,Sem.run_bind]
   rw[AfK ty e inf hu hi Hk len cap k n h0 hn,z8];rfl
  ·obtain ⟨ma,fj⟩:=hb b m4
   rcases fj with ⟨vf,_⟩|⟨g,arr,e',hg,nc,_,_⟩
   ·omega
   ·obtain rfl:Hk=⟨g,off*z,none⟩:=by simpa using nc
    exact ⟨g,hg,by rw[MO,ma,<-hz,Nat.add_mul];rfl⟩
theorem Ak2 (hm:D8 B S w0 m) (hs:FX B S m ρ a.eval) {a7:Nat} {x' i':BL} (h:C4 P num o.op (.v7 none a7 x' i')=true) {k:IntKind} {n:Int} {l:Bool} {es:List (List AV)} {cs:List AV} (u5:ρ i' = .int k n) (hx:ρ x' = .sl l es) (h0:0<=n) (hn:es[n.toNat]? = some cs) (hz:cs.length=a7) :
  F2 B S w0 P o a m (.val (.y9 cs)):=by
 obtain ⟨ty,x,i,e,inf,m6,h1,h2,hi,z8,fj⟩:=pJ h;rcases fj with ⟨_,hl,_⟩|⟨_,hu,_⟩
 ·cases hl
 ·have oz:=nX (hx ▸ hs x x' h1)
  have Ax:=NU (u5 ▸ hs i i' h2);have l7:n.toNat<es.length:=(zS hn).1;generalize db:a.eval x=v at oz;cases oz with
  | my=>simp at l7
  | sl _ _ b ob z9 cap u m7 hp hR da ml hc hr =>
   have My:z9=a7:=by
    rw[<-hz];exact (ml cs (zM hn)).symm
   subst My;refine IU hm (u := .pointer (some ⟨b,ob+n.toNat*z9,none⟩)) ?_ (.ca (.one (.y9 _ b (ob+n.toNat*z9) (u n.toNat) l (λ_=>hR) (λ j c hj => ?_) (λ j c hj=>hr _ cs hn j c hj))))
   ·simp only[execOp,m6,db,Ax,Sem.run_bind]
    rw[AfK ty e inf hu hi ⟨b,ob,none⟩ es.length cap k n h0 (by omega),z8,MO];rfl
   ·rw[Nat.add_assoc]
    exact hc _ cs hn j c hj
end
end Go.b8

namespace Go.b8
open Go.RowKit
section
variable {B:Nat} {S:Nat->Prop} {w0:World} {m:M}
variable {P:Program} {num:Nat->Nat} {o:Oper} {a:Act} {ρ:BL->AV}
theorem yZ (t:TypeId) (agg:Bool) (n:Nat) (lq : ∀ w,(isAgg t).run P w = .ok agg w) (hn:if agg then ∃ i,P.info? t=some i/\i.size=n else n=1) (ad:Addr) (vs:List Value) (hl:vs.length=n) (w:World)
  (hc : ∀ q v,vs[q]? = some v->w.cell? (ad.add q)=some v):(Instr.loadAt t (.pointer (some ad))).run P w = .ok (if agg then .agg vs.toArray else vs.getD 0 undef) w:=by
 unfold Instr.loadAt loadVar;simp only[Instr.sureAddr,Sem.run_bind,Sem.run_pure,Result.andThen_ok,lq w];cases agg with
 | true =>
  simp only[if_true]at hn;obtain ⟨i,hi,hs⟩:=hn;have:=run_loadCells_list (P:=P) w ad vs hc
  simp [sizeOf,typeInfo,hi,hs,<-hl,this]
 | false =>
  simp only[Bool.false_eq_true,if_false]at hn ⊢;have l7:0<vs.length:=by omega
  have h0:=hc 0 vs[0] (zE l7);have Bi:w.cell? ad=some vs[0]:=by simpa [Addr.add] using h0
  simp [load,Sem.run,Bi,l7]
theorem Afe (hm:D8 B S w0 m) {s t i j n:Nat} {cs:List AV} (h:m.own.uf s t i j n=some cs) : ∃ b g arr e,m.own.get s t=some b/\(0<n->m.ν s t=some g/\m.w.heap[g]? = some (.cells arr e (0,0))) /\
  ∃ vs:List Value,vs.length=n/\CL B S m cs vs /\ ∀ q v,vs[q]? = some v->arr[i*b.a7+j+q]? = some v:=by
 unfold BD.uf at h;cases hb:m.own.get s t with
 | none=>simp [hb]at h
 | some b =>
  simp only[hb]at h;cases he:b.es[i]? with
  | none=>simp [he]at h
  | some ds =>
   simp only[he,part]at h;split at h
   ·rename_i hle
    obtain rfl:(ds.drop j).take n=cs:=by simpa using h
    obtain ⟨hz,di⟩:=hm.c9 s t b hb;cases hν:m.ν s t with
    | none =>
     rw[hν]at di;rw[di]at he;simp at he
    | some g =>
     rw[hν]at di;obtain ⟨hB,arr,e,hh,aj⟩:=di;have z8 : ∀ q,q<n -> ∃ u,arr[i*b.a7+j+q]? = some u:=λ q hq=>by
      have l7:j+q<ds.length:=by omega
      obtain ⟨u,hu,_⟩:=aj i ds he (j+q) ds[j+q] (zE l7);exact ⟨u,by rw[<-hu];congr 1;omega⟩
     refine ⟨b,g,arr,e,rfl,λ_=>⟨rfl,hh⟩,(arr.toList.drop (i*b.a7+j)).take n,?_,⟨?_,?_⟩,?_⟩
     ·rw[List.length_take,List.length_drop]
      rcases Nat.eq_zero_or_pos n with h0|h0
      ·omega
      ·obtain ⟨u,hu⟩:=z8 (n-1) (by omega)
       have:=(Array.getElem?_eq_some_iff.1 hu).1
       simp;omega
     ·rw[List.length_take,List.length_take,List.length_drop,List.length_drop]
      rcases Nat.eq_zero_or_pos n with h0|h0
      ·omega
      ·obtain ⟨u,hu⟩:=z8 (n-1) (by omega)
       have:=(Array.getElem?_eq_some_iff.1 hu).1
       simp;omega
     ·intro q c v hq hv
      rw[List.getElem?_take]at hq hv;split at hq
      ·rename_i Lx
       rw[if_pos Lx]at hv;rw[List.getElem?_drop]at hq hv;obtain ⟨u,hu,hc⟩:=aj i ds he (j+q) c hq;have:some u=some v:=by
        rw[<-hu,<-hv];simp only[Array.getElem?_toList];congr 1;omega
       obtain rfl:u=v:=by simpa using this
       exact hc
      ·cases hq
     ·intro q v hv
      rw[List.getElem?_take]at hv;split at hv
      ·rw[List.getElem?_drop]at hv
       simpa using hv
      ·cases hv
   ·cases h
theorem nO {w:World} {g p:Nat} {arr:Array Value} {e:TypeId} (h:w.heap[g]? = some (.cells arr e (0,0))):w.cell? ⟨g,p,none⟩=arr[p]? := by
 simp [World.cell?,h]
theorem Ak4 (hm:D8 B S w0 m) (hs:FX B S m ρ a.eval) {agg:Bool} {n:Nat} {x':BL} (h:C4 P num o.op (.ld agg n x')=true) {s t i j:Nat} {cs:List AV} {v:AV} (hx:ρ x' = .ptr s t i j) (hl:m.own.uf s t i j n=some cs) (hv:P4 agg cs=some v) :
  F2 B S w0 P o a m (.val v):=by
 obtain ⟨ty,x,m6,h1,lq,hn⟩:=Ad6 h;obtain ⟨ad,db,ht,hb⟩:=jI (hx ▸ hs x x' h1);obtain ⟨b,g,arr,e,o4,hg,vs,iw,o6,ij⟩:=Afe hm hl;obtain ⟨ae,_⟩:=pZ hv o6;refine IU hm ?_ ae;simp only[execOp,m6,Sem.run_bind,db];rw[yZ ty agg n lq hn ad vs iw m.w (λ q u hq => ?_)]
 ·rfl
 ·have l7:q<vs.length:=(zS hq).1
  obtain ⟨Fw,nn⟩:=hg (by omega);obtain ⟨g',dz,rfl⟩:=hb b o4;obtain rfl:g=g':=by rw[Fw]at dz;simpa using dz
  rw[MO,nO nn];exact ij q u hq
theorem Ak3 (hm:D8 B S w0 m) (hs:FX B S m ρ a.eval) {agg:Bool} {n:Nat} {x':BL} (h:C4 P num o.op (.ld agg n x')=true) {cs ds:List AV} {v:AV} (hx:ρ x' = .y9 cs) (hl:part cs 0 n=some ds) (hv:P4 agg ds=some v) :
  F2 B S w0 P o a m (.val v):=by
 obtain ⟨ty,x,m6,h1,lq,hn⟩:=Ad6 h;obtain ⟨b,ob,u,l,db,hR,hc,hr⟩:=tS (hx ▸ hs x x' h1);unfold b8.part at hl;split at hl
 ·rename_i hle
  obtain rfl:(cs.drop 0).take n=ds:=by simpa using hl
  have o6:CL B S m ((cs.drop 0).take n) ((List.range n).map u):=by
   refine ⟨by simp;omega,λ q c v' hq kj => ?_⟩;simp only[List.drop_zero,List.getElem?_take]at hq;split at hq
   ·rename_i Lx
    simp [Lx]at kj;subst kj;exact .rd (hr q c hq)
   ·cases hq
  obtain ⟨ae,_⟩:=pZ hv o6;refine IU hm ?_ ae;simp only[execOp,m6,Sem.run_bind,db];rw[yZ ty agg n lq hn ⟨b,ob,none⟩ ((List.range n).map u) (by simp) m.w (λ q w' hq => ?_)]
  ·rfl
  ·have Lx:q<n:=by have:=(zS hq).1;simpa using this
   simp [Lx]at hq;subst hq;rw[MO];exact hc q cs[q] (zE (by omega))
 ·cases hl
theorem rE {α:Type} (l:List α) (off:Nat) (vs:List α) (h:off+vs.length<=l.length) (q:Nat):(l.take off++vs++l.drop (off+vs.length))[q]? = if q<off then l[q]? else if q<off+vs.length then vs[q-off]? else l[q]? := by
 rw[List.append_assoc];by_cases h1:q<off
 ·rw[if_pos h1,List.getElem?_append_left (by simp;omega),List.getElem?_take,if_pos h1]
 ·rw[if_neg h1,List.getElem?_append_right (by simp;omega)]
  have e1:(l.take off).length=off:=by simp;omega
  rw[e1];by_cases h2:q<off+vs.length
  ·rw[if_pos h2,List.getElem?_append_left (by omega)]
  ·rw[if_neg h2,List.getElem?_append_right (by omega),List.getElem?_drop]
   congr 1;omega
theorem sZ (hm:D8 B S w0 m) {g:Nat} (hB:B<=g) (arr:Array Value):Below B w0 (m.w.setRow g arr) :=
 hm.below.trans ⟨rfl,rfl,rfl,by simp,λ k hk=>setRow_other _ _ _ _ (by omega)⟩
theorem Zj (hm:D8 B S w0 m) (hs:FX B S m ρ a.eval) {n:Nat} {x' v':BL} (h:C4 P num o.op (.st n x' v')=true) {s t i j:Nat} {vs:List AV} {n6:BD} (hx:ρ x' = .ptr s t i j) (hv:cellsOf (ρ v')=some vs) (hn:vs.length=n) (j8:m.own.rk s t i j vs=some n6) :
  F2 B S w0 P o a m (.fp (.g8 []) n6):=by
 obtain ⟨ty,x,v,inf,m6,h1,h2,hi,z8⟩:=Aou h;obtain ⟨ad,db,ht,hb⟩:=jI (hx ▸ hs x x' h1);have o6:=nW (hs v v' h2) hv;unfold BD.rk at j8;cases o4:m.own.get s t with
 | none=>simp [o4]at j8
 | some b =>
  simp only[o4]at j8;cases he:b.es[i]? with
  | none=>simp [he]at j8
  | some cs =>
   simp only[he]at j8;split at j8
   ·rename_i hle
    obtain rfl:=Option.some.inj j8;obtain ⟨hz,di⟩:=hm.c9 s t b o4;obtain ⟨g,hg,rfl⟩:=hb b o4;rw[hg]at di;obtain ⟨hB,arr,e,hh,aj⟩:=di;have yu:cs.length=b.a7:=hz cs (zM he);have hlen:(a.eval v).cells.toList.length=vs.length:=o6.1.symm;have im:i<b.es.length:=(zS he).1;have Gm:i*b.a7+j+vs.length<=arr.size:=by
     rcases Nat.eq_zero_or_pos vs.length with h0|h0
     ·rcases Nat.eq_zero_or_pos j with Ln|Ln
      ·rw[h0,Ln]
       rcases Nat.eq_zero_or_pos i with vb|vb
       ·rw[vb];omega
       ·rcases Nat.eq_zero_or_pos b.a7 with ff|ff
        ·rw[ff];omega
        ·have Ic:i-1<b.es.length:=by omega
         have iq:(b.es[i-1]).length=b.a7:=hz _ (List.getElem_mem Ic);obtain ⟨u,hu,_⟩:=aj (i-1) _ (zE Ic) (b.a7-1) _ (zE (by omega));have:=(Array.getElem?_eq_some_iff.1 hu).1
         have e1:(i-1)*b.a7+b.a7=i*b.a7:=by
          rw[<-Nat.succ_mul];congr 1;omega
         omega
      ·obtain ⟨u,hu,_⟩:=aj i cs he (j-1) cs[j-1] (zE (by omega))
       have:=(Array.getElem?_eq_some_iff.1 hu).1
       omega
     ·obtain ⟨u,hu,_⟩:=aj i cs he (j+vs.length-1) cs[j+vs.length-1] (zE (by omega))
      have:=(Array.getElem?_eq_some_iff.1 hu).1
      omega
    have od:=AjI o6;have Ab:=run_storeCells_at (P:=P) g (i*b.a7+j) e (a.eval v).cells.toList 0 arr m.w hh (by rw[hlen];omega) od;generalize jv:(arr.toList.take (i*b.a7+j+0)++(a.eval v).cells.toList++arr.toList.drop (i*b.a7+j+0+(a.eval v).cells.toList.length)).toArray=w3 at Ab;have Dt : ∀ p,w3[p]? = if p<i*b.a7+j then arr[p]? else if p<i*b.a7+j+vs.length then (a.eval v).cells.toList[p-(i*b.a7+j)]? else arr[p]? := λ p=>by
     rw[<-jv];simp only[Nat.add_zero,List.getElem?_toArray];rw[rE _ _ _ (by rw[hlen];simpa using Gm),hlen];simp only[Array.getElem?_toList]
    have mf:w3.size=arr.size:=by
     rw[<-jv];simp [hlen];have:=hlen
     simp at this;omega
    obtain ⟨k1,k2⟩:=AgU hm s t b ⟨b.a7,b.es.set i (splice cs j vs)⟩ o4 g hg arr w3 e hh rfl (λ y hy=>by
      rcases List.mem_or_eq_of_mem_set hy with hy|hy
      ·exact hz y hy
      ·rw[hy,<-yu];simp [splice];omega) mf
     (λ i' gp u5 q c hq=>by
      show ∃ u,w3[i'*b.a7+q]? = some u/\_;change (b.es.set i (splice cs j vs))[i']? = some gp at u5;by_cases hii:i'=i
      ·subst hii
       rw[List.getElem?_set_self im]at u5;obtain rfl:splice cs j vs=gp:=by simpa using u5
       unfold splice at hq;rw[rE _ _ _ hle]at hq;rw[Dt];by_cases Ec:q<j
       ·rw[if_pos Ec]at hq
        rw[if_pos (by omega)];exact aj i' cs he q c hq
       ·rw[if_neg Ec]at hq
        rw[if_neg (by omega)];by_cases Io:q<j+vs.length
        ·rw[if_pos Io]at hq
         rw[if_pos (by omega)];obtain ⟨u,hu,du⟩:=eF o6 hq;exact ⟨u,by rw[<-hu];congr 1;omega,du⟩
        ·rw[if_neg Io]at hq
         rw[if_neg (by omega)];exact aj i' cs he q c hq
      ·rw[List.getElem?_set_ne (by omega)]at u5
       have Wc:q<b.a7:=by
        rw[<-hz gp (zM u5)];exact (zS hq).1
       obtain ⟨u,hu,du⟩:=aj i' gp u5 q c hq;refine ⟨u,?_,du⟩;rw[Dt,<-hu];rcases Nat.lt_or_gt_of_ne hii with l7|se
       ·have:(i'+1)*b.a7<=i*b.a7:=zR _ l7
        rw[Nat.succ_mul]at this;rw[if_pos (by omega)]
       ·have:(i+1)*b.a7<=i'*b.a7:=zR _ se
        rw[Nat.succ_mul]at this;rw[if_neg (by omega),if_neg (by omega)])
     (m.w.setRow g w3) (sZ hm hB w3) (by simp) (λ k hk=>setRow_other _ _ _ _ hk) (setRow_heap _ _ _ _ _ _ hh)
    intro K Q hK;refine ArG (w':=m.w.setRow g w3) ?_ (hK undef ⟨m.ν,_,m.w.setRow g w3⟩ rfl k1 k2 AeI);have Ws:(a.eval v).cells.size=inf.size:=by rw[z8,<-hn,<-hlen];simp
    simp only[execOp,m6,db,Instr.storeAt,storeVar,Instr.sureAddr,Sem.run_bind,Sem.run_pure,Result.andThen_ok,sizeOf,typeInfo,run_program,hi];rw[if_neg (by simpa using Ws)];simp only[Sem.run_bind,Sem.run_pure,Result.andThen_ok,Ab]
   ·cases j8
theorem Ak6 (hm:D8 B S w0 m) (hs:FX B S m ρ a.eval) {s a7 bytes:Nat} {zero:List AV} {l' c':BL} (h:C4 P num o.op (.mk s a7 bytes zero l' c')=true) {kl kc:IntKind} {l c:Int} (hl:ρ l' = .int kl l) (hc:ρ c' = .int kc c) (h0:0<=l) (ke:l<=c) (hb:c*bytes<=I3) (Rp:c<=9223372036854775807) (hz:zero.length=a7) :
  F2 B S w0 P o a m (.new s ⟨a7,List.replicate l.toNat zero⟩ (λ t => .row s t a7 0 l.toNat)):=by
 obtain ⟨ty,lx,cx,e,inf,z,m6,h1,h2,hu,hi,z8,yn,ff,ml,m7⟩:=Aop h;have el:=NU (hl ▸ hs lx l' h1);have ec:=NU (hc ▸ hs cx c' h2);have o6:CL B S m zero z.cells.toList:=eJ ml;have hzs:z.cells.size=a7:=by rw[<-hz,o6.1];simp
 refine Zi hm s a7 l.toNat c.toNat _ (madeCells z.cells (c.toNat*inf.size)) e (Nat.pos_of_ne_zero m7) (by omega) (by rw[size_madeCells,z8];exact Nat.le_refl _) (λ x hx=>by rw[(List.mem_replicate.1 hx).2,hz]) (λ i cs u5 j c1 hj => ?_) ?_
 ·rw[List.getElem?_replicate]at u5
  split at u5
  ·rename_i im
   obtain rfl:zero=cs:=by simpa using u5
   obtain ⟨u,jm,du⟩:=eF o6 hj;refine ⟨u,?_,du⟩;have gu:j<a7:=by rw[<-hz];exact (zS hj).1
   have l7:i*a7+j<c.toNat*inf.size:=by
    rw[z8];have h3:(i+1)*a7<=c.toNat*a7:=zR _ (by omega);rw[Nat.succ_mul]at h3;omega
   have Vh:(i*a7+j)%z.cells.size=j:=by rw[hzs,Nat.add_comm,Nat.add_mul_mod_self_right,Nat.mod_eq_of_lt gu]
   have pe:z.cells[j]? = some u:=by simpa using jm
   have hjs:j<z.cells.size:=(Array.getElem?_eq_some_iff.1 pe).1;have su:z.cells[j]=u:=(Array.getElem?_eq_some_iff.1 pe).2;simp [madeCells,l7,Vh,hjs,su]
  ·cases u5
 ·have:=run_make (P:=P) m.w ty e inf z hu hi ff kl kc l c h0 ke (by rw[yn,Int.mul_comm];simp only[I3]at hb;omega) Rp
  simp only[execOp,m6,el,ec,Sem.run_bind,this,Result.andThen_ok,Sem.run_pure]
theorem AkV (hm:D8 B S w0 m) (hs:FX B S m ρ a.eval) {x':BL} {i:Nat} (h:C4 P num o.op (.ext x' i)=true) {vs:List AV} {v:AV} (hx:ρ x' = .g8 vs) (hv:vs[i]? = some v):F2 B S w0 P o a m (.val v):=by
 obtain ⟨x,m6,h1⟩:=Aol h;obtain ⟨us,db,hl,hc⟩:=tU (hx ▸ hs x x' h1);have l7:i<us.length:=by rw[<-hl];exact (zS hv).1
 refine IU hm (u:=us[i]) ?_ (.ca (hc i v us[i] hv (zE l7)));simp [execOp,m6,db,Instr.extract,l7]
theorem Ak5 (hm:D8 B S w0 m) (hs:FX B S m ρ a.eval) {x':BL} (h:C4 P num o.op (.len x')=true) {n:Nat} (hx:lenOf (ρ x')=some n):F2 B S w0 P o a m (.val (.int .i64 n)):=by
 obtain ⟨x,t,e,m6,h1,hu⟩:=Aoo h;have ae:=hs x x' h1;obtain ⟨ad,cap,db⟩ : ∃ ad cap,a.eval x = .slice ad n cap:=by
  generalize ρ x'=av at *;cases av with
  | sl l es =>
   have hr:=nX ae;simp only[lenOf,Option.some.injEq]at hx;subst hx;generalize a.eval x=v at *;cases hr with
   | my=>exact ⟨_,_,rfl⟩
   | sl=>exact ⟨_,_,rfl⟩
  | row s t z off len =>
   obtain ⟨ad,cap,hv,_⟩:=bH ae;simp only[lenOf,Option.some.injEq]at hx;subst hx;exact ⟨ad,cap,hv⟩
  | nil =>
   simp only[lenOf,Option.some.injEq]at hx;subst hx;exact ⟨_,_,eG ae⟩
  | _=>simp [lenOf]at hx
 refine IU hm (u := .int .i64 n) ?_ (XL _ _);simp [execOp,m6,resolve,invoke,builtin,db,Builtin.len_,run_underlying hu,goInt]
theorem bM (hs:FX B S m ρ a.eval) : ∀ {xs:List Operand} {ys:List BL},IA xs ys=true->xs.length=ys.length /\ ∀ (j:Nat) (x:Operand) (y:BL),xs[j]? = some x->ys[j]? = some y->CV B S m (ρ y) (a.eval x)
 | [],[],_=>⟨rfl,λ j x y h=>by simp at h⟩
 | x::r,y::l,h=>by
  simp only[IA,Bool.and_eq_true]at h;obtain ⟨ih1,lk⟩:=bM hs h.2;refine ⟨by simp [ih1],λ j x' y' hx hy => ?_⟩;cases j with
  | zero=>simp at hx hy;subst hx hy;exact hs _ _ h.1
  | succ j=>exact lk j x' y' (by simpa using hx) (by simpa using hy)
 | [],_::_,h=>by simp [IA]at h
 | _::_,[],h=>by simp [IA]at h
theorem AfL (mx:Bool) (hs:FX B S m ρ a.eval) (w:World) : ∀ (xs:List Operand) (ys:List BL) (v:AV) (u:Value) (r:AV),IA xs ys=true->CV B S m v u->P2 mx v (ys.map ρ)=some r->(∃ k n,v = .int k n) -> ∃ k n,r = .int k n /\
  ((xs.map a.eval).foldlM (if mx then Builtin.max2 else Builtin.min2) u).run P w = .ok (.int k n) w
 | [],[],v,u,r,_,hc,hm,⟨k,n,hv⟩=>by
  simp only[List.map_nil,P2,Option.some.injEq]at hm;subst hm hv;obtain rfl:=NU hc;exact ⟨k,n,rfl,by simp⟩
 | x::xr,y::yr,v,u,r,he,hc,hm,⟨k,n,hv⟩=>by
  simp only[IA,Bool.and_eq_true]at he;simp only[List.map_cons,P2]at hm;have hx:=hs x y he.1;subst hv;obtain rfl:=NU hc;cases hy:ρ y with
  | int k' n' =>
   rw[hy]at hx hm;have hxe:=NU hx;simp only[YV]at hm;obtain ⟨k2,n2,rfl,h2⟩:=AfL mx hs w xr yr _ (.int k (if mx then (if n'>n then n' else n) else (if n'<n then n' else n))) r he.2 (XL _ _) hm ⟨_,_,rfl⟩;refine ⟨k2,n2,rfl,?_⟩;simp only[List.map_cons,List.foldlM_cons,Sem.run_bind,hxe];cases mx
   ·simpa [Builtin.min2] using h2
   ·simpa [Builtin.max2] using h2
  | _=>rw[hy]at hm;simp [YV]at hm
 | [],_::_,_,_,_,he,_,_,_=>by simp [IA]at he
 | _::_,[],_,_,_,he,_,_,_=>by simp [IA]at he
theorem Ak8 (hm:D8 B S w0 m) (hs:FX B S m ρ a.eval) {mx:Bool} {s8:List BL} (h:C4 P num o.op (.mm mx s8)=true) {v r:AV} {l:List AV} (hx:s8.map ρ=v::l) (hv:P2 mx v l=some r) (hi : ∃ k n,v = .int k n):F2 B S w0 P o a m (.val r):=by
 obtain ⟨xs,ts,m6,he⟩:=Ad7 h;cases s8 with
 | nil=>simp at hx
 | cons y yr =>
  simp only[List.map_cons,List.cons.injEq]at hx;obtain ⟨rfl,rfl⟩:=hx;obtain ⟨xl⟩:=xs;cases xl with
  | nil=>simp [IA]at he
  | cons x xr =>
   simp only[IA,Bool.and_eq_true]at he;obtain ⟨k,n,rfl,w4⟩:=AfL (P:=P) mx hs m.w xr yr (ρ y) (a.eval x) r he.2 (hs x y he.1) hv hi;refine IU hm (u := .int k n) ?_ (XL _ _);cases mx
   ·simp only[execOp,m6,resolve,invoke,builtin,Builtin.min_,Sem.run_bind,Sem.run_pure,Result.andThen_ok]at w4 ⊢
    simp at w4 ⊢;rw[w4];rfl
   ·simp only[execOp,m6,resolve,invoke,builtin,Builtin.max_,Sem.run_bind,Sem.run_pure,Result.andThen_ok]at w4 ⊢
    simp at w4 ⊢;rw[w4];rfl
end
end Go.b8
