/-
  What an abstract value says of a value in memory; when it stays said.
-/
import Derived.Test.YtpafclijakpknaaGreatB2
import Derived.Below
import Derived.Laws.CopyRow
import Derived.Laws.Cells
import Derived.Laws.MakeOwn
import Derived.Laws.AppendOwn
import Derived.Deep.AppendSrc
import Derived.Deep.Draws
import Derived.ArgAppend
import Derived.Laws.StructEq
import Derived.ChangeKeysEq
set_option linter.unusedSimpArgs false
set_option linter.unusedVariables false
set_option linter.unnecessarySimpa false
namespace Go.c9
open Go.RowKit
theorem WC (b o n:Nat):(⟨b,o,none⟩:Addr).add n=⟨b,o+n,none⟩:=by
 unfold Addr.add;split<;>simp_all
inductive Rd (w:World) (R:Bool->Nat->Prop):AV->Value->Prop
 | int (k:IntKind) (n:Int):Rd w R (.int k n) (.int k n)
 | bool (b:Bool):Rd w R (.bool b) (.bool b)
 | str (s:ByteArray):Rd w R (.gx (.string s)) (.string s)
 | uz:Rd w R (.gx .nilFunc) .nilFunc
 | rm (l:Bool) (a:Option Addr) (cap:Nat):Rd w R (.sl l []) (.slice a 0 cap)
 | emp (b:Bool) (a:Option Addr) (cap:Nat) (h:a.isNone=b):Rd w R (.gx (.bool b)) (.slice a 0 cap)
 | sl (l:Bool) (es:List (List AV)) (b o b7 cap:Nat) (u:Nat->Nat->Value) (u5:es≠[]) (hp:0<b7) (hR:R l b) (gu:es.length<=cap) (hz : ∀ e∈es,e.length=b7)
   (hc : ∀ i e,es[i]? = some e -> ∀ j c,e[j]? = some c->w.cell? ⟨b,o+(i*b7+j),none⟩=some (u i j))
   (hr : ∀ i e,es[i]? = some e -> ∀ j c,e[j]? = some c->Rd w R c (u i j)) :
   Rd w R (.sl l es) (.slice (some ⟨b,o,none⟩) es.length cap)
theorem Rd.one {w:World} {R:Bool->Nat->Prop} {a:AV} {v:Value} (h:Rd w R a v):v.oneCell'=true:=by
 cases h<;>rfl
theorem tL {w:World} {a:Addr} {u:Value} (h:w.cell? a=some u):a.block<w.heap.size:=by
 unfold World.cell? at h;split at h
 ·rename_i hh
  exact (Array.getElem?_eq_some_iff.1 hh).1
 ·cases h
theorem Vn {es:List (List AV)} {b7:Nat} (u5:es≠[]) (hp:0<b7) (hz : ∀ e∈es,e.length=b7) : ∃ e c,es[0]? = some e/\e[0]? = some c:=by
 cases es with
 | nil=>exact absurd rfl u5
 | cons e r =>
  have:=hz e (by simp)
  cases e with
  | nil=>simp at this;omega
  | cons c q=>exact ⟨c::q,c,rfl,rfl⟩
theorem Rd.mono {w w':World} {R R':Bool->Nat->Prop} (hR : ∀ l b,b<w.heap.size->R l b->R' l b)
  (hw : ∀ l b,b<w.heap.size->R l b->w'.heap[b]? = w.heap[b]?) {a:AV} {v:Value} (h:Rd w R a v):Rd w' R' a v:=by
 induction h with
 | int k n=>exact .int k n
 | bool b=>exact .bool b
 | str s=>exact .str s
 | uz=>exact .uz
 | rm l a cap=>exact .rm l a cap
 | emp b a cap h=>exact .emp b a cap h
 | sl l es b o b7 cap u u5 hp h1 gu hz hc hr ih =>
  obtain ⟨e,c,he,qy⟩:=Vn u5 hp hz;have hb:b<w.heap.size:=tL (hc 0 e he 0 c qy);refine .sl l es b o b7 cap u u5 hp (hR l b hb h1) gu hz (λ i e he j c Pv => ?_) ih;rw[World.cell?_of_block (w:=w) (hw l b hb h1)];exact hc i e he j c Pv
structure M where
 ν:Nat->Nat->Option Nat
 own:C2
 w:World
section
variable (B:Nat) (S:Nat->Prop)
def safe (m:M) (l:Bool) (b:Nat):Prop :=
 (S b/\b<B)\/(B<=b /\ ∀ s t,(m.own.get s t).isSome=true->m.ν s t≠some b)\/(l=true/\b<B)
inductive CC (m:M):AV->Value->Prop
 | rd {a:AV} {v:Value} (h:Rd m.w (safe B S m) a v):CC m a v
 | nil:CC m .nil (.slice none 0 0)
 | row (s t z off len:Nat) (a:Option Addr) (cap:Nat) (ht:t<m.own.k9 s) (jm:0<z) (su:len<=cap) (ha:0<len->a.isSome=true)
   (h : ∀ b,m.own.get s t=some b->b.b7=z/\((len=0/\cap=0) \/ ∃ g arr e,m.ν s t=some g/\a=some ⟨g,off*z,none⟩/\m.w.heap[g]? = some (.cells arr e (0,0))/\(off+cap)*z<=arr.size)) :
   CC m (.row s t z off len) (.slice a len cap)
 | ptr (s t i j:Nat) (a:Addr) (ht:t<m.own.k9 s) (h : ∀ b,m.own.get s t=some b -> ∃ g,m.ν s t=some g/\a=⟨g,i*b.b7+j,none⟩):CC m (.ptr s t i j) (.pointer (some a))
 | db (cs:List AV) (b o:Nat) (u:Nat->Value) (l:Bool) (hR:cs≠[]->safe B S m l b) (hc : ∀ j c,cs[j]? = some c->m.w.cell? ⟨b,o+j,none⟩=some (u j)) (hr : ∀ j c,cs[j]? = some c->Rd m.w (safe B S m) c (u j)) :
   CC m (.db cs) (.pointer (some ⟨b,o,none⟩))
def CL (m:M) (cs:List AV) (vs:List Value):Prop:=cs.length=vs.length /\ ∀ (j:Nat) (c:AV) (v:Value),cs[j]? = some c->vs[j]? = some v->CC B S m c v
inductive CA (m:M):AV->Value->Prop
 | one {a:AV} {v:Value} (h:CC B S m a v):CA m a v
 | agg (cs:List AV) (vs:List Value) (h:CL B S m cs vs):CA m (.agg cs) (.agg vs.toArray)
 | fn (p:Bool) (f g:Nat) (cs:List AV) (vs:List Value) (hp:p=true->cs=[]) (h:CL B S m cs vs):CA m (.fn p f g cs) (.func (.func g) #[] vs.toArray)
 | Ec (f g:Nat) (cs:List AV) (vs:List Value) (hp:cs≠[]) (h:CL B S m cs vs):CA m (.fn true f g cs) (.func (.func g) #[.agg vs.toArray] #[])
inductive CV (m:M):AV->Value->Prop
 | any (v:Value):CV m .any v
 | ca {a:AV} {v:Value} (h:CA B S m a v):CV m a v
 | j5 (as:List AV) (vs:List Value) (hl:as.length=vs.length) (h : ∀ (j:Nat) (c:AV) (v:Value),as[j]? = some c->vs[j]? = some v->CA B S m c v):CV m (.j5 as) (.tuple vs.toArray)
def Apt (m:M) (s t:Nat) (b:LS):Prop :=
 (∀ e∈b.es,e.length=b.b7)/\match m.ν s t with
  | none=>b.es=[]
  | some g=>B<=g /\ ∃ arr e,m.w.heap[g]? = some (.cells arr e (0,0)) /\
    ∀ i cs,b.es[i]? = some cs -> ∀ j c,cs[j]? = some c -> ∃ u,arr[i*b.b7+j]? = some u/\CC B S m c u
structure GR (w0:World) (m:M):Prop where
 below:Below B w0 m.w
 size:B<=m.w.heap.size
 fresh : ∀ s t,m.own.k9 s<=t->m.own.get s t=none
 k8 : ∀ s t b,m.own.get s t=some b->Apt B S m s t b
 inj : ∀ s t s' t' b b' g,m.own.get s t=some b->m.own.get s' t'=some b'->m.ν s t=some g->m.ν s' t'=some g->s=s'/\t=t'
structure J8 (m m':M):Prop where
 size:m.w.heap.size<=m'.w.heap.size
 Gd : ∀ b,b<m.w.heap.size->safe B S m true b->m'.w.heap[b]? = m.w.heap[b]?
 Ls : ∀ l b,b<m.w.heap.size->safe B S m l b->safe B S m' l b
 k9 : ∀ s,m.own.k9 s<=m'.own.k9 s
 name : ∀ s t b',t<m.own.k9 s->m'.own.get s t=some b' -> ∃ b,m.own.get s t=some b/\b'.b7=b.b7/\m'.ν s t=m.ν s t /\
   ∀ g arr e,m.ν s t=some g->m.w.heap[g]? = some (.cells arr e (0,0)) -> ∃ df,m'.w.heap[g]? = some (.cells df e (0,0))/\df.size=arr.size
end
section
variable {B:Nat} {S:Nat->Prop}
theorem AgA {m:M} {l:Bool} {b:Nat} (h:safe B S m l b):safe B S m true b:=by
 rcases h with h|h|⟨_,h⟩
 ·exact .inl h
 ·exact .inr (.inl h)
 ·exact .inr (.inr ⟨rfl,h⟩)
theorem J8.rd {m m':M} (h:J8 B S m m') {a:AV} {v:Value} (hr:Rd m.w (safe B S m) a v):Rd m'.w (safe B S m') a v :=
 hr.mono h.Ls (λ_ b hb hs=>h.Gd b hb (AgA hs))
theorem J8.cc {m m':M} (h:J8 B S m m') {a:AV} {v:Value} (hc:CC B S m a v):CC B S m' a v:=by
 cases hc with
 | rd hr=>exact .rd (h.rd hr)
 | nil=>exact .nil
 | row s t z off len a cap ht jm su ha hb =>
  refine .row s t z off len a cap (Nat.lt_of_lt_of_le ht (h.k9 s)) jm su ha λ b' o8 => ?_
  obtain ⟨b,h1,h2,h3,h4⟩:=h.name s t b' ht o8;obtain ⟨hz,lu⟩:=hb b h1;refine ⟨h2.trans hz,?_⟩;rcases lu with h0|⟨g,arr,e,hg,uh,hh,hle⟩
  ·exact .inl h0
  ·obtain ⟨df,ha',Dt⟩:=h4 g arr e hg hh
   exact .inr ⟨g,df,e,h3.trans hg,uh,ha',Dt ▸ hle⟩
 | ptr s t i j a ht hb =>
  refine .ptr s t i j a (Nat.lt_of_lt_of_le ht (h.k9 s)) λ b' o8 => ?_
  obtain ⟨b,h1,h2,h3,_⟩:=h.name s t b' ht o8;obtain ⟨g,hg,uh⟩:=hb b h1;exact ⟨g,h3.trans hg,h2 ▸ uh⟩
 | db cs b o u l hR hc hr =>
  have o5:cs≠[]->b<m.w.heap.size:=λ u5=>by
   cases cs with
   | nil=>exact absurd rfl u5
   | cons c r=>exact tL (hc 0 c rfl)
  refine .db cs b o u l (λ u5=>h.Ls l b (o5 u5) (hR u5)) (λ j c hj => ?_) (λ j c hj=>h.rd (hr j c hj));have u5:cs≠[]:=λ e=>by subst e;simp at hj
  rw[World.cell?_of_block (w:=m.w) (h.Gd b (o5 u5) (AgA (hR u5)))];exact hc j c hj
theorem J8.cl {m m':M} (h:J8 B S m m') {cs:List AV} {vs:List Value} (hc:CL B S m cs vs):CL B S m' cs vs :=
 ⟨hc.1,λ j c v h1 h2=>h.cc (hc.2 j c v h1 h2)⟩
theorem J8.ca {m m':M} (h:J8 B S m m') {a:AV} {v:Value} (hc:CA B S m a v):CA B S m' a v:=by
 cases hc with
 | one hc=>exact .one (h.cc hc)
 | agg cs vs hc=>exact .agg cs vs (h.cl hc)
 | fn p f g cs vs hp hc=>exact .fn p f g cs vs hp (h.cl hc)
 | Ec f g cs vs hp hc=>exact .Ec f g cs vs hp (h.cl hc)
theorem J8.cv {m m':M} (h:J8 B S m m') {a:AV} {v:Value} (hc:CV B S m a v):CV B S m' a v:=by
 cases hc with
 | any v=>exact .any v
 | ca hc=>exact .ca (h.ca hc)
 | j5 as vs hl hc=>exact .j5 as vs hl λ j c v h1 h2=>h.ca (hc j c v h1 h2)
theorem J8.refl (m:M):J8 B S m m :=
 ⟨Nat.le_refl _,λ_ _ _=>rfl,λ_ _ _ h=>h,λ_=>Nat.le_refl _,λ_ _ b' _ h=>⟨b',h,rfl,rfl,λ_ arr _ _ h=>⟨arr,h,rfl⟩⟩⟩
theorem J8.trans {m m' m'':M} (h:J8 B S m m') (k:J8 B S m' m''):J8 B S m m'' where
 size:=Nat.le_trans h.size k.size
 Gd b hb hs:=(k.Gd b (Nat.lt_of_lt_of_le hb h.size) (h.Ls true b hb hs)).trans (h.Gd b hb hs)
 Ls l b hb hs:=k.Ls l b (Nat.lt_of_lt_of_le hb h.size) (h.Ls l b hb hs)
 k9 s:=Nat.le_trans (h.k9 s) (k.k9 s)
 name s t b'' ht AD0:=by
  obtain ⟨b',h1,h2,h3,h4⟩:=k.name s t b'' (Nat.lt_of_lt_of_le ht (h.k9 s)) AD0;obtain ⟨b,g1,g2,g3,g4⟩:=h.name s t b' ht h1;refine ⟨b,g1,h2.trans g2,h3.trans g3,λ g arr e hg ha => ?_⟩;obtain ⟨df,ha',Dt⟩:=g4 g arr e hg ha;obtain ⟨Vt,ADU,AEF⟩:=h4 g df e (g3.trans hg) ha';exact ⟨Vt,ADU,AEF.trans Dt⟩
theorem CC.one {m:M} {a:AV} {v:Value} (h:CC B S m a v):v.oneCell'=true:=by
 cases h with
 | rd h=>exact h.one
 | _=>rfl
end
end Go.c9
namespace Go.c9
open Go.RowKit
section
variable {B:Nat} {S:Nat->Prop} {w0:World}
def live (m:M) (s t:Nat):Prop := ∃ b,m.own.get s t=some b
theorem GR.ge {m:M} (h:GR B S w0 m) {s t g:Nat} (hl:live m s t) (hg:m.ν s t=some g):B<=g /\ ∃ arr e,m.w.heap[g]? = some (.cells arr e (0,0)):=by
 obtain ⟨b,hb⟩:=hl;obtain ⟨_,h2⟩:=h.k8 s t b hb;rw[hg]at h2;obtain ⟨h3,arr,e,h4,_⟩:=h2;exact ⟨h3,arr,e,h4⟩
theorem uA {m m':M} (hm:GR B S w0 m) (hs:m.w.heap.size<=m'.w.heap.size)
  (hk : ∀ b,b<m.w.heap.size->(∀ s t,live m s t->m.ν s t≠some b)->m'.w.heap[b]? = m.w.heap[b]?) (Mu : ∀ s,m.own.k9 s<=m'.own.k9 s)
  (Yo : ∀ s t b',t<m.own.k9 s->m'.own.get s t=some b' -> ∃ b,m.own.get s t=some b/\b'.b7=b.b7/\m'.ν s t=m.ν s t /\
   ∀ g arr e,m.ν s t=some g->m.w.heap[g]? = some (.cells arr e (0,0)) -> ∃ df,m'.w.heap[g]? = some (.cells df e (0,0))/\df.size=arr.size)
  (rh : ∀ s t g,live m' s t->m'.ν s t=some g->g<m.w.heap.size -> ∃ s0 t0,live m s0 t0/\m.ν s0 t0=some g):J8 B S m m':=by
 have mf : ∀ b,safe B S m true b -> ∀ s t,live m s t->m.ν s t≠some b:=by
  intro b hb s t hl hg;have zz:=(hm.ge hl hg).1;rcases hb with ⟨_,h⟩|⟨_,h⟩|⟨_,h⟩
  ·omega
  ·obtain ⟨b',o8⟩:=hl
   exact h s t (by simp [o8]) hg
  ·omega
 refine ⟨hs,λ b hb Fq=>hk b hb (mf b Fq),λ l b hb Fq => ?_,Mu,Yo⟩;rcases Fq with h|⟨h,hn⟩|h
 ·exact .inl h
 ·refine .inr (.inl ⟨h,λ s t hl hg => ?_⟩)
  obtain ⟨b',o8⟩:=Option.isSome_iff_exists.1 hl;obtain ⟨s0,t0,⟨b0,td⟩,Nb⟩:=rh s t b ⟨b',o8⟩ hg hb;exact hn s0 t0 (by simp [td]) Nb
 ·exact .inr (.inr h)
theorem grow {m:M} (hm:GR B S w0 m) {w':World} (hb:Below m.w.heap.size m.w w') :
  GR B S w0 ⟨m.ν,m.own,w'⟩/\J8 B S m ⟨m.ν,m.own,w'⟩:=by
 have he:J8 B S m ⟨m.ν,m.own,w'⟩:=by
  refine uA hm hb.size (λ b o8 _=>hb.block b o8) (λ_=>Nat.le_refl _) (λ s t b' _ o8=>⟨b',o8,rfl,rfl,λ g arr e hg ha=>⟨arr,?_,rfl⟩⟩) (λ s t g hl hg _=>⟨s,t,hl,hg⟩);have:g<m.w.heap.size:=(Array.getElem?_eq_some_iff.1 ha).1
  exact (hb.block g this).trans ha
 refine ⟨⟨hm.below.trans (hb.mono hm.size),Nat.le_trans hm.size hb.size,hm.fresh,λ s t b hg => ?_,hm.inj⟩,he⟩;obtain ⟨h1,h2⟩:=hm.k8 s t b hg;refine ⟨h1,?_⟩;show match m.ν s t with|none=>_|some g=>_
 cases hν:m.ν s t with
 | none=>rw[hν]at h2;exact h2
 | some g =>
  rw[hν]at h2;obtain ⟨h3,arr,e,h4,h5⟩:=h2;refine ⟨h3,arr,e,?_,λ i cs hi j c hj => ?_⟩
  ·exact (hb.block g (Array.getElem?_eq_some_iff.1 h4).1).trans h4
  ·obtain ⟨u,hu,fi⟩:=h5 i cs hi j c hj
   exact ⟨u,hu,he.cc fi⟩
theorem PX (o:C2) (s s' t':Nat) (b:LS):(o.put s ((o s).new b)).get s' t'=if s'=s/\t'=o.k9 s then some b else o.get s' t':=by
 unfold C2.get C2.put H1.new C2.k9;by_cases h:s'=s
 ·subst h
  by_cases h2:t'=(o s').k9<;>simp [h2]
 ·simp [h]
theorem dJ (o:C2) (s s':Nat) (b:LS):(o.put s ((o s).new b)).k9 s'=if s'=s then o.k9 s+1 else o.k9 s':=by
 unfold C2.k9 C2.put H1.new;by_cases h:s'=s<;>simp [h]
theorem Rp (o:C2) (s t s' t':Nat) (b:Option LS):(o.put s ((o s).cr t b)).get s' t'=if s'=s/\t'=t then b else o.get s' t':=by
 unfold C2.get C2.put H1.cr;by_cases h:s'=s
 ·subst h
  by_cases h2:t'=t<;>simp [h2]
 ·simp [h]
theorem AiI (o:C2) (s t s':Nat) (b:Option LS):(o.put s ((o s).cr t b)).k9 s'=o.k9 s':=by
 unfold C2.k9 C2.put H1.cr;by_cases h:s'=s<;>simp [h]
def l6 (m:M) (s:Nat) (g:Option Nat):Nat->Nat->Option Nat:=λ s' t'=>if s'=s/\t'=m.own.k9 s then g else m.ν s' t'
theorem Acl {m:M} (hm:GR B S w0 m) (s:Nat) : ¬ live m s (m.own.k9 s):=λ⟨b,hb⟩=>by
 rw[hm.fresh s _ (Nat.le_refl _)]at hb;cases hb
theorem AdF {m:M} (hm:GR B S w0 m) (s:Nat) (b:LS) (arr:Array Value) (e:TypeId) (hz : ∀ x∈b.es,x.length=b.b7)
  (hc : ∀ i cs,b.es[i]? = some cs -> ∀ j c,cs[j]? = some c -> ∃ u,arr[i*b.b7+j]? = some u/\CC B S m c u) :
  GR B S w0 ⟨l6 m s (some m.w.heap.size),m.own.put s ((m.own s).new b),m.w.alloc (.cells arr e)⟩ /\
  J8 B S m ⟨l6 m s (some m.w.heap.size),m.own.put s ((m.own s).new b),m.w.alloc (.cells arr e)⟩:=by
 have di:(m.w.alloc (.cells arr e)).heap.size=m.w.heap.size+1:=by simp
 have hν : ∀ s' t',live m s' t'->l6 m s (some m.w.heap.size) s' t'=m.ν s' t':=λ s' t' hl=>by
  unfold l6;rw[if_neg];rintro ⟨rfl,rfl⟩
  exact Acl hm _ hl
 have he:J8 B S m ⟨l6 m s (some m.w.heap.size),m.own.put s ((m.own s).new b),m.w.alloc (.cells arr e)⟩:=by
  refine uA hm (by rw[di];omega) (λ k hk _=>Below.heap_alloc _ _ _ hk) (λ s' => ?_) (λ s' t' b' ht o8 => ?_) (λ s' t' g hl hg o5 => ?_)
  ·rw[dJ];split
   ·rename_i h;subst h;omega
   ·exact Nat.le_refl _
  ·rw[PX]at o8
   rw[if_neg (by rintro ⟨rfl,rfl⟩;omega)]at o8;refine ⟨b',o8,rfl,hν s' t' ⟨b',o8⟩,λ g ar e' hg ha=>⟨ar,?_,rfl⟩⟩;exact (Below.heap_alloc _ _ _ (Array.getElem?_eq_some_iff.1 ha).1).trans ha
  ·obtain ⟨b',o8⟩:=hl
   have dd:=o8;rw[PX]at o8;by_cases h:s'=s/\t'=m.own.k9 s
   ·simp only[l6,if_pos h,Option.some.injEq]at hg
    omega
   ·rw[if_neg h]at o8
    exact ⟨s',t',⟨b',o8⟩,by rw[<-hν s' t' ⟨b',o8⟩];exact hg⟩
 refine ⟨⟨hm.below.alloc hm.size _,by rw[di];have:=hm.size;omega,λ s' t' ht => ?_,λ s' t' b' o8 => ?_,λ s1 t1 s2 t2 b1 b2 g h1 h2 g1 g2 => ?_⟩,he⟩
 ·rw[dJ]at ht
  rw[PX,if_neg]
  ·refine hm.fresh s' t' ?_
   split at ht
   ·rename_i h;subst h;omega
   ·exact ht
  ·rintro ⟨rfl,rfl⟩
   simp at ht;omega
 ·rw[PX]at o8
  by_cases h:s'=s/\t'=m.own.k9 s
  ·rw[if_pos h]at o8
   obtain rfl:b=b':=by simpa using o8
   refine ⟨hz,?_⟩;show match l6 m s (some m.w.heap.size) s' t' with|none=>_|some g=>_
   rw[show l6 m s (some m.w.heap.size) s' t'=some m.w.heap.size by simp [l6,h]];refine ⟨hm.size,arr,e,heap_alloc_new _ _,λ i cs hi j c hj => ?_⟩;obtain ⟨u,hu,fi⟩:=hc i cs hi j c hj;exact ⟨u,hu,he.cc fi⟩
  ·rw[if_neg h]at o8
   obtain ⟨h1,h2⟩:=hm.k8 s' t' b' o8;refine ⟨h1,?_⟩;show match l6 m s (some m.w.heap.size) s' t' with|none=>_|some g=>_
   rw[hν s' t' ⟨b',o8⟩];cases hv:m.ν s' t' with
   | none=>rw[hv]at h2;exact h2
   | some g =>
    rw[hv]at h2;obtain ⟨h3,ar,e',h4,h5⟩:=h2;refine ⟨h3,ar,e',(Below.heap_alloc _ _ _ (Array.getElem?_eq_some_iff.1 h4).1).trans h4,λ i cs hi j c hj => ?_⟩;obtain ⟨u,hu,fi⟩:=h5 i cs hi j c hj;exact ⟨u,hu,he.cc fi⟩
 ·rw[PX]at h1 h2
  have lt : ∀ s' t' b',m.own.get s' t'=some b'->l6 m s (some m.w.heap.size) s' t'=some g->g<m.w.heap.size:=λ s' t' b' hb hg=>by
   rw[hν s' t' ⟨b',hb⟩]at hg;obtain ⟨_,ar,e',h4⟩:=hm.ge ⟨b',hb⟩ hg;exact (Array.getElem?_eq_some_iff.1 h4).1
  have at_ : ∀ s' t',s'=s/\t'=m.own.k9 s->l6 m s (some m.w.heap.size) s' t'=some g->g=m.w.heap.size:=λ s' t' h hg=>by
   simp only[l6,if_pos h,Option.some.injEq]at hg;exact hg.symm
  by_cases p1:s1=s/\t1=m.own.k9 s<;>by_cases p2:s2=s/\t2=m.own.k9 s
  ·exact ⟨p1.1.trans p2.1.symm,p1.2.trans p2.2.symm⟩
  ·rw[if_neg p2]at h2
   have:=lt s2 t2 b2 h2 g2
   have:=at_ s1 t1 p1 g1
   omega
  ·rw[if_neg p1]at h1
   have:=lt s1 t1 b1 h1 g1
   have:=at_ s2 t2 p2 g2
   omega
  ·rw[if_neg p1]at h1
   rw[if_neg p2]at h2;exact hm.inj s1 t1 s2 t2 b1 b2 g h1 h2 (by rw[<-hν s1 t1 ⟨b1,h1⟩];exact g1) (by rw[<-hν s2 t2 ⟨b2,h2⟩];exact g2)
theorem Aot {m:M} (hm:GR B S w0 m) (s b7:Nat) :
  GR B S w0 ⟨l6 m s none,m.own.put s ((m.own s).new ⟨b7,[]⟩),m.w⟩/\J8 B S m ⟨l6 m s none,m.own.put s ((m.own s).new ⟨b7,[]⟩),m.w⟩:=by
 have hν : ∀ s' t',live m s' t'->l6 m s none s' t'=m.ν s' t':=λ s' t' hl=>by
  unfold l6;rw[if_neg];rintro ⟨rfl,rfl⟩
  exact Acl hm _ hl
 have he:J8 B S m ⟨l6 m s none,m.own.put s ((m.own s).new ⟨b7,[]⟩),m.w⟩:=by
  refine uA hm (Nat.le_refl _) (λ k hk _=>rfl) (λ s' => ?_) (λ s' t' b' ht o8 => ?_) (λ s' t' g hl hg o5 => ?_)
  ·rw[dJ];split
   ·rename_i h;subst h;omega
   ·exact Nat.le_refl _
  ·rw[PX]at o8
   rw[if_neg (by rintro ⟨rfl,rfl⟩;omega)]at o8;exact ⟨b',o8,rfl,hν s' t' ⟨b',o8⟩,λ g ar e' hg ha=>⟨ar,ha,rfl⟩⟩
  ·obtain ⟨b',o8⟩:=hl
   rw[PX]at o8;by_cases h:s'=s/\t'=m.own.k9 s
   ·simp [l6,if_pos h]at hg
   ·rw[if_neg h]at o8
    exact ⟨s',t',⟨b',o8⟩,by rw[<-hν s' t' ⟨b',o8⟩];exact hg⟩
 refine ⟨⟨hm.below,hm.size,λ s' t' ht => ?_,λ s' t' b' o8 => ?_,λ s1 t1 s2 t2 b1 b2 g h1 h2 g1 g2 => ?_⟩,he⟩
 ·rw[dJ]at ht
  rw[PX,if_neg]
  ·refine hm.fresh s' t' ?_
   split at ht
   ·rename_i h;subst h;omega
   ·exact ht
  ·rintro ⟨rfl,rfl⟩
   simp at ht;omega
 ·rw[PX]at o8
  by_cases h:s'=s/\t'=m.own.k9 s
  ·rw[if_pos h]at o8
   obtain rfl:(⟨b7,[]⟩:LS)=b':=by simpa using o8
   refine ⟨by simp,?_⟩;show match l6 m s none s' t' with|none=>_|some g=>_
   rw[show l6 m s none s' t'=none by simp [l6,h]]
  ·rw[if_neg h]at o8
   obtain ⟨h1,h2⟩:=hm.k8 s' t' b' o8;refine ⟨h1,?_⟩;show match l6 m s none s' t' with|none=>_|some g=>_
   rw[hν s' t' ⟨b',o8⟩];cases hv:m.ν s' t' with
   | none=>rw[hv]at h2;exact h2
   | some g =>
    rw[hv]at h2;obtain ⟨h3,ar,e',h4,h5⟩:=h2;refine ⟨h3,ar,e',h4,λ i cs hi j c hj => ?_⟩;obtain ⟨u,hu,fi⟩:=h5 i cs hi j c hj;exact ⟨u,hu,he.cc fi⟩
 ·rw[PX]at h1 h2
  by_cases p1:s1=s/\t1=m.own.k9 s
  ·simp [l6,if_pos p1]at g1
  ·by_cases p2:s2=s/\t2=m.own.k9 s
   ·simp [l6,if_pos p2]at g2
   ·rw[if_neg p1]at h1
    rw[if_neg p2]at h2;exact hm.inj s1 t1 s2 t2 b1 b2 g h1 h2 (by rw[<-hν s1 t1 ⟨b1,h1⟩];exact g1) (by rw[<-hν s2 t2 ⟨b2,h2⟩];exact g2)
theorem AxV {m:M} (hm:GR B S w0 m) (s t:Nat) (b b':LS) (hb:m.own.get s t=some b) (g:Nat) (hg:m.ν s t=some g) (arr df:Array Value) (e:TypeId)
  (ha:m.w.heap[g]? = some (.cells arr e (0,0))) (hz':b'.b7=b.b7) (hz : ∀ x∈b'.es,x.length=b'.b7) (di:df.size=arr.size)
  (hc : ∀ i cs,b'.es[i]? = some cs -> ∀ j c,cs[j]? = some c -> ∃ u,df[i*b'.b7+j]? = some u/\CC B S m c u) (w':World) (qu:Below B w0 w') (Lh:w'.heap.size=m.w.heap.size)
  (hk : ∀ k,k≠g->w'.heap[k]? = m.w.heap[k]?) (hgw:w'.heap[g]? = some (.cells df e (0,0))) :
  GR B S w0 ⟨m.ν,m.own.put s ((m.own s).cr t (some b')),w'⟩/\J8 B S m ⟨m.ν,m.own.put s ((m.own s).cr t (some b')),w'⟩:=by
 have o5:t<m.own.k9 s:=by
  rcases Nat.lt_or_ge t (m.own.k9 s) with h|h
  ·exact h
  ·rw[hm.fresh s t h]at hb;cases hb
 have he:J8 B S m ⟨m.ν,m.own.put s ((m.own s).cr t (some b')),w'⟩:=by
  refine uA hm (by rw[Lh];exact Nat.le_refl _) (λ k qi hn=>hk k (λ e=>hn s t ⟨b,hb⟩ (e ▸ hg))) (λ s'=>by rw[AiI];exact Nat.le_refl _) (λ s' t' b2 ht dd => ?_) (λ s' t' g' hl lq _ => ?_)
  ·rw[Rp]at dd
   by_cases h:s'=s/\t'=t
   ·obtain ⟨rfl,rfl⟩:=h
    rw[if_pos ⟨rfl,rfl⟩]at dd;obtain rfl:b'=b2:=by simpa using dd
    refine ⟨b,hb,hz',rfl,λ g2 ar e' ub Ia => ?_⟩;obtain rfl:g=g2:=by rw[hg]at ub;simpa using ub
    rw[ha]at Ia;obtain ⟨rfl,rfl⟩:arr=ar/\e=e':=by simpa using Ia
    exact ⟨df,hgw,di⟩
   ·rw[if_neg h]at dd
    refine ⟨b2,dd,rfl,rfl,λ g2 ar e' ub Ia=>⟨ar,?_,rfl⟩⟩;rw[<-Ia];exact hk g2 (λ e2=>h (by
     subst e2;exact hm.inj s' t' s t b2 b g2 dd hb ub hg))
  ·obtain ⟨b2,dd⟩:=hl
   rw[Rp]at dd;by_cases h:s'=s/\t'=t
   ·obtain ⟨rfl,rfl⟩:=h
    exact ⟨s',t',⟨b,hb⟩,lq⟩
   ·rw[if_neg h]at dd
    exact ⟨s',t',⟨b2,dd⟩,lq⟩
 refine ⟨⟨qu,by rw[Lh];exact hm.size,λ s' t' ht => ?_,λ s' t' b2 dd => ?_,λ s1 t1 s2 t2 b1 b2 g1 h1 h2 e1 e2 => ?_⟩,he⟩
 ·rw[AiI]at ht
  rw[Rp,if_neg (by rintro ⟨rfl,rfl⟩;omega)];exact hm.fresh s' t' ht
 ·rw[Rp]at dd
  by_cases h:s'=s/\t'=t
  ·obtain ⟨rfl,rfl⟩:=h
   rw[if_pos ⟨rfl,rfl⟩]at dd;obtain rfl:b'=b2:=by simpa using dd
   refine ⟨hz,?_⟩;show match m.ν s' t' with|none=>_|some g=>_
   rw[hg];refine ⟨(hm.ge ⟨b,hb⟩ hg).1,df,e,hgw,λ i cs hi j c hj => ?_⟩;obtain ⟨u,hu,fi⟩:=hc i cs hi j c hj;exact ⟨u,hu,he.cc fi⟩
  ·rw[if_neg h]at dd
   obtain ⟨h1,h2⟩:=hm.k8 s' t' b2 dd;refine ⟨h1,?_⟩;show match m.ν s' t' with|none=>_|some g=>_
   cases hv:m.ν s' t' with
   | none=>rw[hv]at h2;exact h2
   | some g2 =>
    rw[hv]at h2;obtain ⟨h3,ar,e',h4,h5⟩:=h2;refine ⟨h3,ar,e',?_,λ i cs hi j c hj => ?_⟩
    ·rw[<-h4]
     exact hk g2 (λ e2=>h (by
      subst e2;exact hm.inj s' t' s t b2 b g2 dd hb hv hg))
    ·obtain ⟨u,hu,fi⟩:=h5 i cs hi j c hj
     exact ⟨u,hu,he.cc fi⟩
 ·have old : ∀ s' t' b2,(m.own.put s ((m.own s).cr t (some b'))).get s' t'=some b2 -> ∃ b3,m.own.get s' t'=some b3:=λ s' t' b2 h=>by
   rw[Rp]at h;by_cases h':s'=s/\t'=t
   ·obtain ⟨rfl,rfl⟩:=h';exact ⟨b,hb⟩
   ·rw[if_neg h']at h;exact ⟨b2,h⟩
  obtain ⟨c1,k1⟩:=old s1 t1 b1 h1;obtain ⟨c2,k2⟩:=old s2 t2 b2 h2;exact hm.inj s1 t1 s2 t2 c1 c2 g1 k1 k2 e1 e2
theorem uC (o:C2) (s t s' t':Nat) (b:LS):(o.put s (((o s).cr t none).new b)).get s' t'=if s'=s/\t'=o.k9 s then some b else if s'=s/\t'=t then none else o.get s' t':=by
 unfold C2.get C2.put H1.new H1.cr C2.k9;by_cases h:s'=s
 ·subst h
  by_cases h2:t'=(o s').k9<;>by_cases h3:t'=t<;>simp [h2,h3]
 ·simp [h]
theorem AbH (o:C2) (s t s':Nat) (b:LS):(o.put s (((o s).cr t none).new b)).k9 s'=if s'=s then o.k9 s+1 else o.k9 s':=by
 unfold C2.k9 C2.put H1.new H1.cr;by_cases h:s'=s<;>simp [h]
theorem AfI {m:M} (hm:GR B S w0 m) (s t:Nat) (b b':LS) (hb:m.own.get s t=some b) (jv:Option Nat) (w':World) (qu:Below B w0 w') (di:m.w.heap.size<=w'.heap.size)
  (hk : ∀ k,k<m.w.heap.size->m.ν s t≠some k->w'.heap[k]? = m.w.heap[k]?) (hz : ∀ x∈b'.es,x.length=b'.b7)
  (Fm:jv=none->b'.es=[])
  (Fs : ∀ g,jv=some g->B<=g/\(m.w.heap.size<=g\/m.ν s t=some g) /\ ∃ arr e,w'.heap[g]? = some (.cells arr e (0,0)) /\
   ∀ i cs,b'.es[i]? = some cs -> ∀ j c,cs[j]? = some c -> ∃ u,arr[i*b'.b7+j]? = some u/\CC B S m c u) :
  GR B S w0 ⟨l6 m s jv,m.own.put s (((m.own s).cr t none).new b'),w'⟩/\J8 B S m ⟨l6 m s jv,m.own.put s (((m.own s).cr t none).new b'),w'⟩:=by
 have o5:t<m.own.k9 s:=by
  rcases Nat.lt_or_ge t (m.own.k9 s) with h|h
  ·exact h
  ·rw[hm.fresh s t h]at hb;cases hb
 have hν : ∀ s' t',live m s' t'->l6 m s jv s' t'=m.ν s' t':=λ s' t' hl=>by
  unfold l6;rw[if_neg];rintro ⟨rfl,rfl⟩
  exact Acl hm _ hl
 have he:J8 B S m ⟨l6 m s jv,m.own.put s (((m.own s).cr t none).new b'),w'⟩:=by
  refine uA hm di (λ k qi hn=>hk k qi (hn s t ⟨b,hb⟩)) (λ s' => ?_) (λ s' t' b2 ht dd => ?_) (λ s' t' g' hl lq Fg => ?_)
  ·rw[AbH];split
   ·rename_i h;subst h;omega
   ·exact Nat.le_refl _
  ·rw[uC]at dd
   rw[if_neg (by rintro ⟨rfl,rfl⟩;omega)]at dd;by_cases h:s'=s/\t'=t
   ·rw[if_pos h]at dd;cases dd
   ·rw[if_neg h]at dd
    refine ⟨b2,dd,rfl,hν s' t' ⟨b2,dd⟩,λ g2 ar e' ub Ia=>⟨ar,?_,rfl⟩⟩;rw[<-Ia];exact hk g2 (Array.getElem?_eq_some_iff.1 Ia).1 (λ e2=>h (hm.inj s' t' s t b2 b g2 dd hb ub e2))
  ·obtain ⟨b2,dd⟩:=hl
   rw[uC]at dd;by_cases h0:s'=s/\t'=m.own.k9 s
   ·simp only[l6,if_pos h0]at lq
    obtain ⟨_,h2,_⟩:=Fs g' lq;rcases h2 with h2|h2
    ·omega
    ·exact ⟨s,t,⟨b,hb⟩,h2⟩
   ·rw[if_neg h0]at dd
    by_cases h:s'=s/\t'=t
    ·rw[if_pos h]at dd;cases dd
    ·rw[if_neg h]at dd
     exact ⟨s',t',⟨b2,dd⟩,by rw[<-hν s' t' ⟨b2,dd⟩];exact lq⟩
 refine ⟨⟨qu,Nat.le_trans hm.size di,λ s' t' ht => ?_,λ s' t' b2 dd => ?_,λ s1 t1 s2 t2 b1 b2 g1 h1 h2 e1 e2 => ?_⟩,he⟩
 ·rw[AbH]at ht
  have vq:m.own.k9 s'<=t' /\ ¬ (s'=s/\t'=m.own.k9 s):=by
   by_cases h:s'=s
   ·subst h
    simp at ht;exact ⟨by omega,by omega⟩
   ·simp [h]at ht
    exact ⟨ht,λ h'=>h h'.1⟩
  rw[uC,if_neg vq.2];split
  ·rfl
  ·exact hm.fresh s' t' vq.1
 ·rw[uC]at dd
  by_cases h0:s'=s/\t'=m.own.k9 s
  ·rw[if_pos h0]at dd
   obtain rfl:b'=b2:=by simpa using dd
   refine ⟨hz,?_⟩;show match l6 m s jv s' t' with|none=>_|some g=>_
   rw[show l6 m s jv s' t'=jv by simp [l6,h0]];cases jv with
   | none=>exact Fm rfl
   | some g =>
    obtain ⟨h1,_,arr,e,h4,h5⟩:=Fs g rfl;refine ⟨h1,arr,e,h4,λ i cs hi j c hj => ?_⟩;obtain ⟨u,hu,fi⟩:=h5 i cs hi j c hj;exact ⟨u,hu,he.cc fi⟩
  ·rw[if_neg h0]at dd
   by_cases h:s'=s/\t'=t
   ·rw[if_pos h]at dd;cases dd
   ·rw[if_neg h]at dd
    obtain ⟨h1,h2⟩:=hm.k8 s' t' b2 dd;refine ⟨h1,?_⟩;show match l6 m s jv s' t' with|none=>_|some g=>_
    rw[hν s' t' ⟨b2,dd⟩];cases hv:m.ν s' t' with
    | none=>rw[hv]at h2;exact h2
    | some g2 =>
     rw[hv]at h2;obtain ⟨h3,ar,e',h4,h5⟩:=h2;refine ⟨h3,ar,e',?_,λ i cs hi j c hj => ?_⟩
     ·rw[<-h4]
      exact hk g2 (Array.getElem?_eq_some_iff.1 h4).1 (λ e2=>h (hm.inj s' t' s t b2 b g2 dd hb hv e2))
     ·obtain ⟨u,hu,fi⟩:=h5 i cs hi j c hj
      exact ⟨u,hu,he.cc fi⟩
 ·rw[uC]at h1 h2
  have old : ∀ s' t' b2,(if s'=s/\t'=t then none else m.own.get s' t')=some b2->m.own.get s' t'=some b2 /\ ¬ (s'=s/\t'=t):=λ s' t' b2 h=>by
   by_cases h':s'=s/\t'=t
   ·rw[if_pos h']at h;cases h
   ·rw[if_neg h']at h;exact ⟨h,h'⟩
  have wg : ∀ s' t' b2,m.own.get s' t'=some b2 -> ¬ (s'=s/\t'=t)->l6 m s jv s' t'=some g1->jv=some g1->False:=λ s' t' b2 dd u5 e1 e2=>by
   rw[hν s' t' ⟨b2,dd⟩]at e1;obtain ⟨_,h2,_⟩:=Fs g1 e2;obtain ⟨_,ar,e',h4⟩:=hm.ge ⟨b2,dd⟩ e1;have:=(Array.getElem?_eq_some_iff.1 h4).1
   rcases h2 with h2|h2
   ·omega
   ·exact u5 (hm.inj s' t' s t b2 b g1 dd hb e1 h2)
  have at_ : ∀ s' t',s'=s/\t'=m.own.k9 s->l6 m s jv s' t'=some g1->jv=some g1:=λ s' t' h hg=>by simpa [l6,if_pos h] using hg
  by_cases p1:s1=s/\t1=m.own.k9 s<;>by_cases p2:s2=s/\t2=m.own.k9 s
  ·exact ⟨p1.1.trans p2.1.symm,p1.2.trans p2.2.symm⟩
  ·rw[if_neg p2]at h2
   obtain ⟨k2,n2⟩:=old s2 t2 b2 h2;exact (wg s2 t2 b2 k2 n2 e2 (at_ s1 t1 p1 e1)).elim
  ·rw[if_neg p1]at h1
   obtain ⟨k1,n1⟩:=old s1 t1 b1 h1;exact (wg s1 t1 b1 k1 n1 e1 (at_ s2 t2 p2 e2)).elim
  ·rw[if_neg p1]at h1
   rw[if_neg p2]at h2;obtain ⟨k1,n1⟩:=old s1 t1 b1 h1;obtain ⟨k2,n2⟩:=old s2 t2 b2 h2;exact hm.inj s1 t1 s2 t2 b1 b2 g1 k1 k2 (by rw[<-hν s1 t1 ⟨b1,k1⟩];exact e1) (by rw[<-hν s2 t2 ⟨b2,k2⟩];exact e2)
theorem Ak0 (o:C2) (l:List Nat) (s t:Nat):(o.drop l).get s t=if s∈l then none else o.get s t:=by
 induction l with
 | nil=>simp [C2.drop]
 | cons x r ih =>
  unfold C2.get at *;by_cases h:s=x
  ·subst h;simp [C2.drop,C2.put]
  ·simp only[C2.drop,C2.put,if_neg h,List.mem_cons]
   rw[ih];by_cases h2:s∈r<;>simp [h,h2]
theorem AiH (o:C2) (l:List Nat) (s:Nat):(o.drop l).k9 s=o.k9 s:=by
 induction l with
 | nil=>simp [C2.drop]
 | cons x r ih =>
  unfold C2.k9 at *;by_cases h:s=x
  ·subst h;simp [C2.drop,C2.put]
  ·simp [C2.drop,C2.put,h,ih]
theorem Asw {m:M} (hm:GR B S w0 m) (l:List Nat):GR B S w0 ⟨m.ν,m.own.drop l,m.w⟩/\J8 B S m ⟨m.ν,m.own.drop l,m.w⟩:=by
 have old : ∀ s t b,(m.own.drop l).get s t=some b->m.own.get s t=some b:=λ s t b h=>by
  rw[Ak0]at h;split at h
  ·cases h
  ·exact h
 have he:J8 B S m ⟨m.ν,m.own.drop l,m.w⟩:=by
  refine uA hm (Nat.le_refl _) (λ_ _ _=>rfl) (λ s=>by rw[AiH];exact Nat.le_refl _) (λ s t b' _ o8=>⟨b',old s t b' o8,rfl,rfl,λ_ ar _ _ ha=>⟨ar,ha,rfl⟩⟩) (λ s t g hl hg _ => ?_);obtain ⟨b,hb⟩:=hl;exact ⟨s,t,⟨b,old s t b hb⟩,hg⟩
 refine ⟨⟨hm.below,hm.size,λ s t ht => ?_,λ s t b hb => ?_,λ s1 t1 s2 t2 b1 b2 g h1 h2=>hm.inj s1 t1 s2 t2 b1 b2 g (old _ _ _ h1) (old _ _ _ h2)⟩,he⟩
 ·rw[AiH]at ht
  rw[Ak0];split
  ·rfl
  ·exact hm.fresh s t ht
 ·obtain ⟨h1,h2⟩:=hm.k8 s t b (old s t b hb)
  refine ⟨h1,?_⟩;show match m.ν s t with|none=>_|some g=>_
  cases hv:m.ν s t with
  | none=>rw[hv]at h2;exact h2
  | some g =>
   rw[hv]at h2;obtain ⟨h3,ar,e',h4,h5⟩:=h2;refine ⟨h3,ar,e',h4,λ i cs hi j c hj => ?_⟩;obtain ⟨u,hu,fi⟩:=h5 i cs hi j c hj;exact ⟨u,hu,he.cc fi⟩
end
end Go.c9

namespace Go.c9
section
variable {P:Program} {num:Nat->Nat} {op:Op}
theorem Avc {y:C4} (h:FW P num op (.y7 y)=true) : ∃ x,(op = .move x\/op = .assign x)/\HO x y=true:=by
 cases op with
 | move x=>exact ⟨x,.inl rfl,h⟩
 | assign x=>exact ⟨x,.inr rfl,h⟩
 | _=>exact Bool.noConfusion h
theorem Avi {s z:Nat} (h:FW P num op (.gj s z)=true):(op = .move (.const (.slice none 0 0))\/op = .assign (.const (.slice none 0 0)))/\z≠0:=by
 simp only[FW,Bool.and_eq_true,bne_iff_ne]at h;refine ⟨?_,h.1⟩;have h2:=h.2;split at h2<;>simp_all
theorem Avd {c' a' b':C4} (h:FW P num op (.pick c' a' b')=true) : ∃ c a b,op = .pick c a b/\HO c c'=true/\HO a a'=true/\HO b b'=true:=by
 cases op with
 | pick c a b=>simp only[FW,Bool.and_eq_true]at h;exact ⟨c,a,b,rfl,h.1.1,h.1.2,h.2⟩
 | _=>exact Bool.noConfusion h
theorem AuX {f:BinOp} {x' y':C4} (h:FW P num op (.bin f x' y')=true) : ∃ t x y u,op = .binOp f t x y u/\HO x x'=true/\HO y y'=true:=by
 cases op with
 | binOp f' t x y u =>
  simp only[FW,Bool.and_eq_true,beq_iff_eq]at h;exact ⟨t,x,y,u,by rw[h.1.1],h.1.2,h.2⟩
 | _=>exact Bool.noConfusion h
theorem AuW {ne:Bool} {x' y':C4} (h:FW P num op (.beq ne x' y')=true) : ∃ t x y u,op = .binOp (if ne then .neq else .eql) t x y u/\P.underlying t=some .bool/\HO x x'=true/\HO y y'=true:=by
 cases op with
 | binOp f' t x y u =>
  simp only[FW,Bool.and_eq_true]at h;obtain ⟨⟨⟨h1,h2⟩,h3⟩,h4⟩:=h;refine ⟨t,x,y,u,?_,?_,h3,h4⟩
  ·cases ne<;>simp_all
  ·split at h2<;>simp_all
 | _=>exact Bool.noConfusion h
theorem Avh {f:UnOp} {x':C4} (h:FW P num op (.un f x')=true) : ∃ t x,op = .unOp f t x/\HO x x'=true:=by
 cases op with
 | unOp f' t x =>
  simp only[FW,Bool.and_eq_true,beq_iff_eq]at h;exact ⟨t,x,by rw[h.1],h.2⟩
 | _=>exact Bool.noConfusion h
theorem Au5 {k:IntKind} {x':C4} (h:FW P num op (.conv k x')=true) : ∃ s d x ds,op = .convert s d x/\P.underlying s=some ds/\P.underlying d=some (.int k)/\HO x x'=true:=by
 cases op with
 | convert s d x =>
  simp only[FW,Bool.and_eq_true]at h;obtain ⟨⟨h1,h2⟩,h3⟩:=h;obtain ⟨ds,My⟩:=Option.isSome_iff_exists.1 h1;refine ⟨s,d,x,ds,rfl,My,?_,h3⟩;split at h2<;>simp_all
 | _=>exact Bool.noConfusion h
theorem AuY {s:Nat} {x':C4} (h:FW P num op (.box s x')=true) : ∃ t x,op = .box t x/\HO x x'=true:=by
 cases op with
 | box t x=>exact ⟨t,x,rfl,h⟩
 | _=>exact Bool.noConfusion h
theorem AuV {s:Nat} {z:List AV} (h:FW P num op (.alloc s z)=true) : ∃ t,op = .alloc t/\vM P t z=true:=by
 cases op with
 | alloc t=>exact ⟨t,rfl,h⟩
 | _=>exact Bool.noConfusion h
theorem Au0 {z:List AV} {ko:List (Nat × Nat × C4)} (h:FW P num op (.build z ko)=true) : ∃ t ps,op = .build t ps/\vM P t z=true/\AdM P t ps.toList ko=true:=by
 cases op with
 | build t ps=>simp only[FW,Bool.and_eq_true]at h;exact ⟨t,ps,rfl,h.1,h.2⟩
 | _=>exact Bool.noConfusion h
theorem vB {t:TypeId} {f:TypeId->Bool} (h:mP P t f=true) : ∃ e,P.underlying t=some (.slice e)/\f e=true:=by
 unfold mP at h;split at h
 ·rename_i e he;exact ⟨e,he,h⟩
 ·cases h
theorem oN {t:TypeId} {n:Nat} (h:bL P t n=true) : ∃ i,P.info? t=some i/\i.size=n:=by
 unfold bL at h;split at h
 ·rename_i i hi;exact ⟨i,hi,by simpa using h⟩
 ·cases h
theorem Ain {t:TypeId} {n:Nat} (h:Abz P t n=true) : ∃ i,P.info? t=some i/\i.bytes=n:=by
 unfold Abz at h;split at h
 ·rename_i i hi;exact ⟨i,hi,by simpa using h⟩
 ·cases h
theorem Aht {t:TypeId} {l:List AV} (h:vM P t l=true) : ∃ i z,P.info? t=some i/\i.zero=some z/\pW z.cells.toList l=true:=by
 unfold vM at h;split at h
 ·rename_i i hi
  split at h
  ·rename_i z hz;exact ⟨i,z,hi,hz,h⟩
  ·cases h
 ·cases h
theorem AdD {t:TypeId} {b:Bool} (h:(vZ P t == some b)=true) : ∀ w,(isAgg t).run P w = .ok b w:=by
 intro w;have h':vZ P t=some b:=by simpa using h
 unfold vZ at h';unfold isAgg;cases hu:P.underlying t with
 | none=>rw[hu]at h';cases h'
 | some d =>
  rw[hu]at h';rw[Sem.run_bind,run_underlying hu];cases d<;>simp_all<;>rfl
theorem AoG {e:TypeId} {n:Nat} (h:(match P.info? e with|some i=>(match i.zero with|some z=>z.cells.size == n|none=>false)|none=>false)=true) : ∃ i z,P.info? e=some i/\i.zero=some z/\z.cells.size=n:=by
 split at h
 ·rename_i i hi
  split at h
  ·rename_i z hz;exact ⟨i,z,hi,hz,by simpa using h⟩
  ·cases h
 ·cases h
theorem AuZ {s b7:Nat} {ko:List C4} (h:FW P num op (.a9 s b7 ko)=true) : ∃ t n ps e i,op = .buildSlice t n ps/\P.underlying t=some (.slice e)/\P.info? e=some i/\i.size=b7/\b7≠0/\n=ko.length/\n*b7<=16777216/\tT 0 ps.toList ko=true/\(n=0 \/ ∃ z,i.zero=some z/\z.cells.size=b7):=by
 cases op with
 | buildSlice t n ps =>
  simp only[FW,Bool.and_eq_true,decide_eq_true_eq,bne_iff_ne,beq_iff_eq,Bool.or_eq_true]at h;obtain ⟨⟨⟨⟨⟨h1,h2⟩,h3⟩,h4⟩,h5⟩,h6⟩:=h;obtain ⟨e,he,h1⟩:=vB h1;obtain ⟨i,hi,hs⟩:=oN h1;refine ⟨t,n,ps,e,i,rfl,he,hi,hs,h2,h3,h4,h5,h6.imp id λ h6 => ?_⟩;obtain ⟨e',oz,h6⟩:=vB h6;rw[he]at oz;obtain rfl:e=e':=by simpa using oz
  obtain ⟨i',z,bu,hz,Dt⟩:=AoG h6;rw[hi]at bu;obtain rfl:i=i':=by simpa using bu
  exact ⟨z,hz,Dt⟩
 | _=>exact Bool.noConfusion h
theorem All {x':C4} {off:Nat} (h:FW P num op (.m4 x' off)=true) : ∃ t x f fs fd i,op = .fieldAddr t x f/\HO x x'=true/\P.underlying t=some (.struct fs)/\fs[f]? = some fd/\fd.offset=off/\P.info? fd.type=some i/\i.size≠0:=by
 cases op with
 | fieldAddr t x f =>
  simp only[FW,Bool.and_eq_true]at h;obtain ⟨h1,h2⟩:=h;split at h2
  ·rename_i fs Es
   split at h2
   ·rename_i fd hfd
    simp only[Bool.and_eq_true,beq_iff_eq]at h2;obtain ⟨h3,h4⟩:=h2;split at h4
    ·rename_i i hi
     exact ⟨t,x,f,fs,fd,i,rfl,h1,Es,hfd,h3,hi,by simpa using h4⟩
    ·cases h4
   ·cases h2
  ·cases h2
 | _=>exact Bool.noConfusion h
theorem Au7 {x':C4} {off n:Nat} {agg:Bool} (h:FW P num op (.ye x' off n agg)=true) : ∃ t x f fs fd i,op = .field t x f/\HO x x'=true/\P.underlying t=some (.struct fs)/\fs[f]? = some fd/\fd.offset=off/\P.info? fd.type=some i/\i.size=n/\(∀ w,(isAgg fd.type).run P w = .ok agg w)/\n≠0:=by
 cases op with
 | field t x f =>
  simp only[FW,Bool.and_eq_true]at h;obtain ⟨⟨h1,h2⟩,h3⟩:=h;unfold AkA at h2;unfold AkC at h3;split at h2
  ·rename_i fs Es
   split at h2
   ·rename_i fd hfd
    simp only[Bool.and_eq_true,beq_iff_eq,bne_iff_ne]at h2;obtain ⟨⟨h4,h5⟩,h6⟩:=h2;obtain ⟨i,hi,hs⟩:=oN h5;rw[Es]at h3;simp only[hfd]at h3;exact ⟨t,x,f,fs,fd,i,rfl,h1,Es,hfd,h4,hi,hs,AdD h3,h6⟩
   ·cases h2
  ·cases h2
 | _=>exact Bool.noConfusion h
theorem Ab7 {arr:Option Nat} {b7:Nat} {x' i':C4} (h:FW P num op (.ch arr b7 x' i')=true) : ∃ t x i e inf,op = .indexAddr t x i/\HO x x'=true/\HO i i'=true/\P.info? e=some inf/\inf.size=b7 /\
  ((∃ len,arr=some len/\P.underlying t=some (.array len e)/\1<len)\/(arr=none/\P.underlying t=some (.slice e)/\b7≠0)):=by
 cases op with
 | indexAddr t x i =>
  simp only[FW,Bool.and_eq_true]at h;obtain ⟨⟨h1,h2⟩,h3⟩:=h;split at h3
  ·rename_i len e Cz hu
   simp only[Bool.and_eq_true,beq_iff_eq,decide_eq_true_eq]at h3;obtain ⟨⟨h4,h5⟩,h6⟩:=h3;obtain ⟨inf,hi,hs⟩:=oN h5;exact ⟨t,x,i,e,inf,rfl,h1,h2,hi,hs,.inl ⟨len,by rw[h4],hu,h6⟩⟩
  ·rename_i e hu
   simp only[Bool.and_eq_true,bne_iff_ne]at h3;obtain ⟨inf,hi,hs⟩:=oN h3.1;exact ⟨t,x,i,e,inf,rfl,h1,h2,hi,hs,.inr ⟨rfl,hu,h3.2⟩⟩
  ·cases h3
 | _=>exact Bool.noConfusion h
theorem Alm {agg:Bool} {n:Nat} {x':C4} (h:FW P num op (.ld agg n x')=true) : ∃ t x,op = .load t x/\HO x x'=true/\(∀ w,(isAgg t).run P w = .ok agg w)/\(if agg then ∃ i,P.info? t=some i/\i.size=n else n=1):=by
 cases op with
 | load t x =>
  simp only[FW,Bool.and_eq_true]at h;obtain ⟨⟨h1,h2⟩,h3⟩:=h;refine ⟨t,x,rfl,h1,AdD h2,?_⟩;cases agg
  ·simpa using h3
  ·exact oN (by simpa using h3)
 | _=>exact Bool.noConfusion h
theorem Avf {n:Nat} {x' v':C4} (h:FW P num op (.st n x' v')=true) : ∃ t x v i,op = .store t x v/\HO x x'=true/\HO v v'=true/\P.info? t=some i/\i.size=n:=by
 cases op with
 | store t x v =>
  simp only[FW,Bool.and_eq_true]at h;obtain ⟨⟨h1,h2⟩,h3⟩:=h;obtain ⟨i,hi,hs⟩:=oN h3;exact ⟨t,x,v,i,rfl,h1,h2,hi,hs⟩
 | _=>exact Bool.noConfusion h
theorem Ava {s b7 bytes:Nat} {zero:List AV} {l' c':C4} (h:FW P num op (.mk s b7 bytes zero l' c')=true) : ∃ t l c e i z,op = .makeSlice t l c/\HO l l'=true/\HO c c'=true/\P.underlying t=some (.slice e)/\P.info? e=some i/\i.size=b7/\i.bytes=bytes/\i.zero=some z/\pW z.cells.toList zero=true/\b7≠0:=by
 cases op with
 | makeSlice t l c =>
  simp only[FW,Bool.and_eq_true,bne_iff_ne]at h;obtain ⟨⟨⟨h1,h2⟩,h3⟩,h4⟩:=h;obtain ⟨e,he,h3⟩:=vB h3;simp only[Bool.and_eq_true]at h3;obtain ⟨⟨h5,h6⟩,h7⟩:=h3;obtain ⟨i,hi,hs⟩:=oN h5;obtain ⟨i2,Ih,Jg⟩:=Ain h6;obtain ⟨i3,z,Pz,hz,ri⟩:=Aht h7;rw[hi]at Ih Pz;obtain rfl:i=i2:=by simpa using Ih
  obtain rfl:i=i3:=by simpa using Pz
  exact ⟨t,l,c,e,i,z,rfl,h1,h2,he,hi,hs,Jg,hz,ri,h4⟩
 | _=>exact Bool.noConfusion h
theorem Afs {b7:Nat} {x':C4} {yz bu:Option C4} (h:FW P num op (.kv b7 x' yz bu)=true) : ∃ t x lo hi e i,op = .slice t x lo hi none/\HO x x'=true/\nX lo yz=true/\nX hi bu=true/\P.underlying t=some (.slice e)/\P.info? e=some i/\i.size=b7/\b7≠0:=by
 cases op with
 | slice t x lo hi mx =>
  cases mx with
  | some _=>exact Bool.noConfusion h
  | none =>
   simp only[FW,Bool.and_eq_true,bne_iff_ne]at h;obtain ⟨⟨⟨⟨h1,h2⟩,h3⟩,h4⟩,h5⟩:=h;obtain ⟨e,he,h4⟩:=vB h4;obtain ⟨i,bu,hs⟩:=oN h4;exact ⟨t,x,lo,hi,e,i,rfl,h1,h2,h3,he,bu,hs,h5⟩
 | _=>exact Bool.noConfusion h
theorem Au6 {x':C4} {i:Nat} (h:FW P num op (.ext x' i)=true) : ∃ x,op = .extract x i/\HO x x'=true:=by
 cases op with
 | extract x j =>
  simp only[FW,Bool.and_eq_true,beq_iff_eq]at h;exact ⟨x,by rw[h.2],h.1⟩
 | _=>exact Bool.noConfusion h
theorem Aol {α:Type} {xs:Array α} {x y:α} (h:xs.toList=[x,y]):xs = #[x,y]:=by cases xs;simp_all
theorem Aok {α:Type} {xs:Array α} {x:α} (h:xs.toList=[x]):xs = #[x]:=by cases xs;simp_all
theorem Au9 {x':C4} (h:FW P num op (.len x')=true) : ∃ x t e,op = .call ⟨.builtin .len,#[x],#[t]⟩/\HO x x'=true/\P.underlying t=some (.slice e):=by
 cases op with
 | call c =>
  obtain ⟨cl,xs,ts⟩:=c;cases cl with
  | builtin b =>
   cases b<;>first|exact Bool.noConfusion h|skip
   simp only[FW]at h;split at h
   ·rename_i x t hx ht
    simp only[Bool.and_eq_true]at h;obtain ⟨e,he,_⟩:=vB h.2;exact ⟨x,t,e,by rw[Aok hx,Aok ht],h.1,he⟩
   ·cases h
  | value f=>cases f<;>exact Bool.noConfusion h
  | invoke=>exact Bool.noConfusion h
 | _=>exact Bool.noConfusion h
theorem Aln {mx:Bool} {y9:List C4} (h:FW P num op (.mm mx y9)=true) : ∃ xs ts,op = .call ⟨.builtin (if mx then .max else .min),xs,ts⟩/\LY xs.toList y9=true:=by
 cases op with
 | call c =>
  obtain ⟨cl,xs,ts⟩:=c;cases cl with
  | builtin b =>
   cases b<;>first|exact Bool.noConfusion h|skip
   all_goals
    simp only[FW,Bool.and_eq_true]at h;refine ⟨xs,ts,?_,h.2⟩;cases mx<;>simp_all
  | value f=>cases f<;>exact Bool.noConfusion h
  | invoke=>exact Bool.noConfusion h
 | _=>exact Bool.noConfusion h
theorem Alk {s b7 bytes:Nat} {x' y':C4} (h:FW P num op (.app s b7 bytes x' y')=true) : ∃ x y t e i z tx ex,op = .call ⟨.builtin .append,#[x,y],#[t,tx]⟩/\HO x x'=true/\HO y y'=true/\P.underlying t=some (.slice e)/\P.info? e=some i/\i.size=b7/\i.bytes=bytes/\i.zero=some z/\z.cells.size=b7/\b7≠0/\P.underlying tx=some (.slice ex):=by
 cases op with
 | call c =>
  obtain ⟨cl,xs,ts⟩:=c;cases cl with
  | builtin b =>
   cases b<;>first|exact Bool.noConfusion h|skip
   simp only[FW]at h;split at h
   ·rename_i x y t u hx ht
    simp only[Bool.and_eq_true,beq_iff_eq,bne_iff_ne]at h;obtain ⟨⟨⟨⟨h1,h2⟩,h3⟩,h4⟩,h5⟩:=h;obtain ⟨e,he,h3⟩:=vB h3;simp only[Bool.and_eq_true]at h3;obtain ⟨⟨h6,h7⟩,h8⟩:=h3;obtain ⟨i,hi,hs⟩:=oN h6;obtain ⟨i2,Ih,Jg⟩:=Ain h7;obtain ⟨i3,z,Pz,hz,ri⟩:=AoG h8;rw[hi]at Ih Pz;obtain rfl:i=i2:=by simpa using Ih
    obtain rfl:i=i3:=by simpa using Pz
    obtain ⟨ex,hex,_⟩:=vB h5;exact ⟨x,y,t,e,i,z,u,ex,by rw[Aol hx,Aol ht],h1,h2,he,hi,hs,Jg,hz,ri,h4,hex⟩
   ·cases h
  | value f=>cases f<;>exact Bool.noConfusion h
  | invoke=>exact Bool.noConfusion h
 | _=>exact Bool.noConfusion h
theorem Afp {f:Nat} {y9:List C4} (h:FW P num op (.call f y9)=true) : ∃ xs ts,op = .call ⟨.value (.func (num f)),xs,ts⟩/\LY xs.toList y9=true:=by
 cases op with
 | call c =>
  obtain ⟨cl,xs,ts⟩:=c;cases cl with
  | builtin b=>cases b<;>exact Bool.noConfusion h
  | value g =>
   cases g with
   | func g =>
    simp only[FW,Bool.and_eq_true,beq_iff_eq]at h;exact ⟨xs,ts,by rw[h.1],h.2⟩
   | _=>exact Bool.noConfusion h
  | invoke=>exact Bool.noConfusion h
 | _=>exact Bool.noConfusion h
theorem Au1 {f:Nat} {y9:List C4} (h:FW P num op (.j6 f y9)=true) : ∃ xs ts,op = .call ⟨.value (.func (num f)),xs,ts⟩/\LY xs.toList y9=true:=by
 cases op with
 | call c =>
  obtain ⟨cl,xs,ts⟩:=c;cases cl with
  | builtin b=>cases b<;>exact Bool.noConfusion h
  | value g =>
   cases g with
   | func g =>
    simp only[FW,Bool.and_eq_true,beq_iff_eq]at h;exact ⟨xs,ts,by rw[h.1],h.2⟩
   | _=>exact Bool.noConfusion h
  | invoke=>exact Bool.noConfusion h
 | _=>exact Bool.noConfusion h
theorem Au2 {f:Nat} {y9:List C4} (h:FW P num op (.v7 f y9)=true):FW P num op (.call f y9)=true:=by
 cases op<;>exact h
theorem Au4 {s f:Nat} {y9:List C4} (h:FW P num op (.iy s f y9)=true):FW P num op (.j6 f y9)=true:=by
 cases op<;>exact h
theorem Au3 {s f:Nat} {y9:List C4} (h:FW P num op (.ay s f y9)=true):FW P num op (.call f y9)=true:=by
 cases op<;>exact h
theorem Avg {s n:Nat} {x' v':C4} (h:FW P num op (.zi s n x' v')=true):FW P num op (.st n x' v')=true:=by
 cases op<;>exact h
theorem Au8 {ne:Bool} {x':C4} (h:FW P num op (.Cq ne x')=true) : ∃ t x u e,op = .binOp (if ne then .neq else .eql) t x (.const (.slice none 0 0)) u/\P.underlying t=some (.slice e)/\HO x x'=true:=by
 cases op with
 | binOp f' t x y u =>
  simp only[FW]at h;split at h
  ·rename_i heq
   simp only[Op.binOp.injEq]at heq;obtain ⟨rfl,rfl,rfl,rfl,rfl⟩:=heq;simp only[Bool.and_eq_true]at h;obtain ⟨⟨h1,h2⟩,h3⟩:=h;unfold mP at h2;split at h2
   ·rename_i e he
    refine ⟨t,x,u,e,?_,he,h3⟩;cases ne
    ·simp only[Bool.false_eq_true,if_false,beq_iff_eq]at h1;rw[h1];rfl
    ·simp only[if_true,beq_iff_eq]at h1;rw[h1];rfl
   ·cases h2
  ·cases h
 | _=>exact Bool.noConfusion h
theorem Ave {tb:List Nat} {i':C4} (h:FW P num op (.nw tb i')=true) : ∃ t s i,op = .index t (.const (.string s)) i/\P.underlying t=some .string/\s.data.toList.map (λ b=>b.toNat)=tb/\HO i i'=true:=by
 cases op with
 | index t x i =>
  simp only[FW]at h;split at h
  ·rename_i heq
   simp only[Op.index.injEq]at heq;obtain ⟨rfl,rfl,rfl⟩:=heq;simp only[Bool.and_eq_true,beq_iff_eq]at h;obtain ⟨⟨h1,h2⟩,h3⟩:=h;exact ⟨_,_,_,rfl,by split at h1<;>simp_all,h2,h3⟩
  ·cases h
 | _=>exact Bool.noConfusion h
theorem Avb {p:Bool} {f:Nat} {y9:List C4} (h:FW P num op (.zh p f y9)=true) : ∃ first xs,op = .makeFunc (.func (num f)) first xs/\first = #[]/\LY xs.toList y9=true:=by
 cases op with
 | makeFunc g first xs =>
  cases g with
  | func g =>
   simp only[FW,Bool.and_eq_true,beq_iff_eq]at h;obtain ⟨⟨rfl,h2⟩,h3⟩:=h;refine ⟨first,xs,rfl,?_,h3⟩;obtain ⟨l⟩:=first
   simp at h2;rw[h2]
  | _=>exact Bool.noConfusion h
 | _=>exact Bool.noConfusion h
theorem Afq {x':C4} {y9:List C4} (h:FW P num op (.w5 x' y9)=true) : ∃ x xs ts,op = .call ⟨.value x,xs,ts⟩/\HO x x'=true/\LY xs.toList y9=true:=by
 cases op with
 | call c =>
  obtain ⟨cl,xs,ts⟩:=c;cases cl with
  | builtin b=>cases b<;>exact Bool.noConfusion h
  | value g =>
   simp only[FW,Bool.and_eq_true]at h;exact ⟨g,xs,ts,rfl,h.1,h.2⟩
  | invoke=>exact Bool.noConfusion h
 | _=>exact Bool.noConfusion h
end
end Go.c9

namespace Go.c9
open Go.RowKit
def H5.fb:H5->C2->C2
 | .val _,o=>o
 | .new s b _,o=>o.put s ((o s).new b)
 | .Kj s b _,o=>o.put s ((o s).new b)
 | .mn _ o',_=>o'
 | .cr s x,o=>o.put s x
 | .Hl s x _,o=>o.put s x
def H5.valOf:H5->C2->AV
 | .val v,_=>v
 | .new s _ v,o=>v (o.k9 s)
 | .Kj s _ v,o=>v (o.k9 s)
 | .mn v _,_=>v
 | .cr _ _,_ => .j5 []
 | .Hl _ _ v,_=>v
section
variable {B:Nat} {S:Nat->Prop} {w0:World} {m:M}
theorem YN {k:IntKind} {n:Int} {v:Value} (h:CV B S m (.int k n) v):v = .int k n:=by
 cases h with
 | ca h=>cases h with
  | one h=>cases h with
   | rd h=>cases h;rfl
theorem tP {b:Bool} {v:Value} (h:CV B S m (.bool b) v):v = .bool b:=by
 cases h with
 | ca h=>cases h with
  | one h=>cases h with
   | rd h=>cases h;rfl
theorem Ars {cs:List AV} {v:Value} (h:CV B S m (.agg cs) v) : ∃ vs:List Value,v = .agg vs.toArray/\CL B S m cs vs:=by
 cases h with
 | ca h=>cases h with
  | one h=>cases h with
   | rd h=>cases h
  | agg _ vs h=>exact ⟨vs,rfl,h⟩
theorem Ad9 {cs:List AV} {v:Value} (h:CV B S m (.j5 cs) v) : ∃ vs:List Value,v = .tuple vs.toArray/\cs.length=vs.length /\ ∀ (j:Nat) (c:AV) (u:Value),cs[j]? = some c->vs[j]? = some u->CA B S m c u:=by
 cases h with
 | ca h=>cases h with
  | one h=>cases h with
   | rd h=>cases h
 | j5 _ vs hl h=>exact ⟨vs,rfl,hl,h⟩
theorem sD (k:IntKind) (n:Int):CV B S m (.int k n) (.int k n):= .ca (.one (.rd (.int k n)))
theorem Ace (b:Bool):CV B S m (.bool b) (.bool b):= .ca (.one (.rd (.bool b)))
theorem Al6:CV B S m (.j5 []) undef := .j5 [] [] rfl (λ j c v h=>by simp at h)
theorem AbK {a:AV} {cs:List AV} {v:Value} (h:CV B S m a v) (hc:cellsOf a=some cs):CL B S m cs v.cells.toList:=by
 cases h with
 | any v=>simp [cellsOf]at hc
 | j5=>simp [cellsOf]at hc
 | ca h=>cases h with
  | agg lj vs h =>
   obtain rfl:lj=cs:=by simpa [cellsOf] using hc
   simpa [Value.cells] using h
  | fn=>simp [cellsOf]at hc
  | Ec=>simp [cellsOf]at hc
  | one h =>
   have h1:v.cells.toList=[v]:=by
    cases h with
    | rd h=>cases h<;>rfl
    | _=>rfl
   have h2:cs=[a]:=by
    cases h with
    | rd h=>cases h<;>simp [cellsOf]at hc<;>exact hc.symm
    | _=>simp [cellsOf]at hc;exact hc.symm
   rw[h1,h2];refine ⟨rfl,λ j c u hj hu => ?_⟩;cases j with
   | zero=>simp at hj hu;subst hj hu;exact h
   | succ j=>simp at hj
theorem Aq4 {cs:List AV} {vs:List Value} (h:CL B S m cs vs) : ∀ v∈vs,v.oneCell'=true:=by
 intro v hv;obtain ⟨j,hj,rfl⟩:=List.getElem_of_mem hv;have Qa:j<cs.length:=by rw[h.1];exact hj
 exact (h.2 j cs[j] vs[j] (zE Qa) (zE hj)).one
theorem Aq5 {cs:List AV} {vs:List Value} (h:CL B S m cs vs) (off n:Nat):CL B S m ((cs.drop off).take n) ((vs.drop off).take n):=by
 refine ⟨by simp [h.1],λ j c v hj hv => ?_⟩;rw[List.getElem?_take]at hj hv;split at hj
 ·rename_i o5
  rw[if_pos o5]at hv;rw[List.getElem?_drop]at hj hv;exact h.2 _ c v hj hv
 ·cases hj
theorem Ajt {v:Value} {a:AV} (h:AbT v a=true):CC B S m a v:=by
 unfold AbT at h;split at h
 ·simp only[Bool.and_eq_true,beq_iff_eq]at h
  obtain ⟨rfl,rfl⟩:=h;exact .rd (.int _ _)
 ·obtain rfl:_=_:=by simpa using h
  exact .rd (.bool _)
 ·exact .nil
 ·rename_i s s'
  obtain rfl:s=s':=by
   have h':s.data.toList=s'.data.toList:=by simpa using h
   obtain ⟨⟨l⟩⟩:=s;obtain ⟨⟨l'⟩⟩:=s';simp only at h';rw[h']
  exact .rd (.str _)
 ·exact .rd .uz
 ·cases h
theorem wZ : ∀ {vs:List Value} {cs:List AV},pW vs cs=true->CL B S m cs vs
 | [],[],_=>⟨rfl,λ j c v h=>by simp at h⟩
 | v::r,c::l,h=>by
  simp only[pW,Bool.and_eq_true]at h;have ih:=wZ (vs:=r) (cs:=l) h.2;refine ⟨by simp [ih.1],λ j c' v' hj hv => ?_⟩;cases j with
  | zero=>simp at hj hv;subst hj hv;exact Ajt h.1
  | succ j=>exact ih.2 j c' v' (by simpa using hj) (by simpa using hv)
 | [],_::_,h=>by simp [pW]at h
 | _::_,[],h=>by simp [pW]at h
theorem AsL {v:Value} {a:AV} (h:AeI v a=true):CV B S m a v:=by
 unfold AeI at h;split at h
 ·rename_i cs l
  have:=wZ (B:=B) (S:=S) (m:=m) h
  exact .ca (by simpa using CA.agg l cs.toList this)
 ·exact .ca (.one (Ajt h))
def I0 (B:Nat) (S:Nat->Prop) (m:M) (ρ:C4->AV) (e:Operand->Value):Prop := ∀ x y,HO x y=true->CV B S m (ρ y) (e x)
theorem AwU {T:Nat->AV} {a:Act} {ρ:C4->AV} (hρt : ∀ n,ρ (.t n)=T n) (hρc : ∀ v,ρ (.c v)=v) (h : ∀ i,CV B S m (T i) (a.tmps.getD i undef)):I0 B S m ρ a.eval:=by
 intro x y Dx;unfold HO at Dx;split at Dx
 ·obtain rfl:_=_:=by simpa using Dx
  rw[hρt];exact h _
 ·rw[hρc]
  exact AsL Dx
 ·obtain rfl:_=_:=by simpa using Dx
  rw[hρc];exact .ca (.fn _ _ _ [] [] (λ_=>rfl) ⟨rfl,λ j c v h=>by simp at h⟩)
 ·cases Dx
variable {P:Program} {num:Nat->Nat} {o:Oper} {a:Act} {ρ:C4->AV} {K:Act->World->Prop} {Q:Exit->Act->World->Prop}
theorem qV {w w':World} {u:Value} (h:(execOp a.eval o).run P w = .ok (.value u) w') (hk:K (a.put o.dst u) w'):o.wp P a w K Q:=by
 unfold Oper.wp;rw[h];exact hk
theorem Ax6 {w w':World} (h:(execOp a.eval o).run P w = .ok .skip w') (hk:K (a.put o.dst undef) w'):o.wp P a w K Q:=by
 unfold Oper.wp;rw[h];exact hk
def I9 (B:Nat) (S:Nat->Prop) (w0:World) (P:Program) (o:Oper) (a:Act) (m:M) (E:H5):Prop :=
 ∀ (K:Act->World->Prop) (Q:Exit->Act->World->Prop),(∀ u m',m'.own=E.fb m.own->GR B S w0 m'->J8 B S m m'->CV B S m' (E.valOf m.own) u->K (a.put o.dst u) m'.w)->o.wp P a m.w K Q
theorem MH (hm:GR B S w0 m) {v:AV} {u:Value} (h:(execOp a.eval o).run P m.w = .ok (.value u) m.w) (hc:CV B S m v u):I9 B S w0 P o a m (.val v) :=
 λ K Q hK=>qV h (hK u m rfl hm (J8.refl m) hc)
theorem Asm (hm:GR B S w0 m) (hs:I0 B S m ρ a.eval) {y:C4} (h:FW P num o.op (.y7 y)=true):I9 B S w0 P o a m (.val (ρ y)):=by
 obtain ⟨x,hx,he⟩:=Avc h;refine MH hm (u:=a.eval x) ?_ (hs x y he);rcases hx with hx|hx<;>simp [execOp,hx]
theorem Ass (hm:GR B S w0 m) {s z:Nat} (h:FW P num o.op (.gj s z)=true):I9 B S w0 P o a m (.Kj s ⟨z,[]⟩ (λ t => .row s t z 0 0)):=by
 obtain ⟨hx,hz⟩:=Avi h;intro K Q hK;obtain ⟨h1,h2⟩:=Aot hm s z;refine qV (u := .slice none 0 0) (w':=m.w) ?_ (hK _ ⟨l6 m s none,m.own.put s ((m.own s).new ⟨z,[]⟩),m.w⟩ rfl h1 h2 ?_)
 ·rcases hx with hx|hx<;>simp [execOp,hx,Act.eval]
 ·refine .ca (.one (.row s (m.own.k9 s) z 0 0 none 0 ?_ (by omega) (Nat.le_refl _) (λ h=>by omega) λ b hb => ?_))
  ·show _<C2.k9 _ s
   rw[dJ];simp
  ·change C2.get _ s _=some b at hb
   rw[PX,if_pos ⟨rfl,rfl⟩]at hb;obtain rfl:(⟨z,[]⟩:LS)=b:=by simpa using hb
   exact ⟨rfl,.inl ⟨rfl,rfl⟩⟩
theorem Ai9 (hm:GR B S w0 m) (hs:I0 B S m ρ a.eval) {c' a' b':C4} (h:FW P num o.op (.pick c' a' b')=true) {t:Bool} (hc:ρ c' = .bool t) :
  I9 B S w0 P o a m (.val (if t then ρ a' else ρ b')):=by
 obtain ⟨c,x,y,o9,h1,h2,h3⟩:=Avd h;have du:=tP (hc ▸ hs c c' h1);refine MH hm (u:=if t then a.eval x else a.eval y) ?_ ?_
 ·cases t<;>simp [execOp,o9,du,asBool]
 ·cases t
  ·exact hs y b' h3
  ·exact hs x a' h2
theorem AwP (f:BinOp) (t:TypeId) (k k':IntKind) (x y:Int) (v:AV) (h:J0 f k x k' y=some v) (w:World) : ∃ u,(binOp f t (.int k x) (.int k' y)).run P w = .ok u w/\((∃ n,v = .int k n/\u = .int k n) \/ ∃ b,v = .bool b/\u = .bool b):=by
 cases f<;>simp only[J0]at h;case shl =>
  split at h
  ·cases h
  ·rename_i hy;simp at h;subst h
   exact ⟨_,by simp [binOp,Op.shift,hy],.inl ⟨_,rfl,rfl⟩⟩
 case shr =>
  split at h
  ·cases h
  ·rename_i hy;simp at h;subst h
   exact ⟨_,by simp [binOp,Op.shift,hy],.inl ⟨_,rfl,rfl⟩⟩
 case quo =>
  split at h
  ·rename_i hy;obtain ⟨rfl,hy⟩:=hy;simp at h;subst h
   exact ⟨_,by simp [binOp,Op.intDiv,hy],.inl ⟨_,rfl,rfl⟩⟩
  ·cases h
 case rem =>
  split at h
  ·rename_i hy;obtain ⟨rfl,hy⟩:=hy;simp at h;subst h
   exact ⟨_,by simp [binOp,Op.intDiv,hy],.inl ⟨_,rfl,rfl⟩⟩
  ·cases h
 case and|or|xor|andNot =>
  all_goals
   split at h
   ·rename_i hk;subst hk;obtain rfl:=Option.some.inj h
    exact ⟨_,by simp only[binOp,ne_eq,not_true_eq_false,if_false];rfl,.inl ⟨_,rfl,rfl⟩⟩
   ·cases h
 case add|sub|mul =>
  all_goals
   split at h
   ·rename_i hk;subst hk;obtain rfl:=Option.some.inj h
    exact ⟨_,by simp [binOp,Op.intArith],.inl ⟨_,rfl,rfl⟩⟩
   ·cases h
 all_goals
  split at h
  ·rename_i hk;subst hk;obtain rfl:=Option.some.inj h
   exact ⟨_,by simp [binOp,Op.intCmp],.inr ⟨_,rfl,rfl⟩⟩
  ·cases h
theorem AwJ (f:BinOp) (t:TypeId) (x y:Operand) (k k':IntKind) (n n':Int) (w:World):(eqGuard f t x y (.int k n) (.int k' n')).run P w = .ok () w:=by
 unfold eqGuard;cases f<;>simp
theorem AwK (f:BinOp) (t:TypeId) (x y:Operand) (b b':Bool) (w:World):(eqGuard f t x y (.bool b) (.bool b')).run P w = .ok () w:=by
 unfold eqGuard;cases f<;>simp
theorem ArW (hm:GR B S w0 m) (hs:I0 B S m ρ a.eval) {f:BinOp} {x' y':C4} (h:FW P num o.op (.bin f x' y')=true) {k k':IntKind} {n n':Int} {v:AV} (hx:ρ x' = .int k n) (hy:ρ y' = .int k' n') (hv:J0 f k n k' n'=some v) :
  I9 B S w0 P o a m (.val v):=by
 obtain ⟨t,x,y,u,o9,h1,h2⟩:=AuX h;have ex:=YN (hx ▸ hs x x' h1);have ey:=YN (hy ▸ hs y y' h2);obtain ⟨r,hr,lu⟩:=AwP (P:=P) f t k k' n n' v hv m.w;refine MH hm (u:=r) ?_ ?_
 ·simp [execOp,o9,ex,ey,AwJ,hr]
 ·rcases lu with ⟨q,rfl,rfl⟩|⟨q,rfl,rfl⟩
  ·exact sD _ _
  ·exact Ace _
theorem AwM (t:TypeId) (b b':Bool) (hu:P.underlying t=some .bool) (w:World):(Op.equal t (.bool b) (.bool b')).run P w = .ok (b == b') w:=by
 have h : ∀ d:Nat,(Op.equalIn (d+1) t (.bool b) (.bool b')).run P w = .ok (b == b') w:=λ d=>by
  unfold Op.equalIn;rw[Sem.run_bind,run_underlying hu];rfl
 exact h 9999
theorem ArV (hm:GR B S w0 m) (hs:I0 B S m ρ a.eval) {ne:Bool} {x' y':C4} (h:FW P num o.op (.beq ne x' y')=true) {b b':Bool} (hx:ρ x' = .bool b) (hy:ρ y' = .bool b') :
  I9 B S w0 P o a m (.val (.bool (if ne then !(b == b') else b == b'))):=by
 obtain ⟨t,x,y,u,o9,hu,h1,h2⟩:=AuW h;have ex:=tP (hx ▸ hs x x' h1);have ey:=tP (hy ▸ hs y y' h2);refine MH hm (u := .bool (if ne then !(b == b') else b == b')) ?_ (Ace _);cases ne<;>simp [execOp,o9,ex,ey,AwK,binOp,AwM t b b' hu]
theorem Asr (hm:GR B S w0 m) (hs:I0 B S m ρ a.eval) {f:UnOp} {x':C4} (h:FW P num o.op (.un f x')=true) {v:AV} (hv:sT f (ρ x')=some v):I9 B S w0 P o a m (.val v):=by
 obtain ⟨t,x,o9,h1⟩:=Avh h;have hx:=hs x x' h1;unfold sT at hv;split at hv
 ·rename_i k n hk
  have ex:=YN (hk ▸ hx);split at hv
  ·obtain rfl:_=v:=by simpa using hv
   exact MH hm (by simp [execOp,o9,ex,Op.unary,Op.intArith]) (sD _ _)
  ·obtain rfl:_=v:=by simpa using hv
   exact MH hm (by simp only[execOp,o9,ex,Op.unary];rfl) (sD _ _)
  ·cases hv
 ·rename_i b hk
  have ex:=tP (hk ▸ hx);split at hv
  ·obtain rfl:_=v:=by simpa using hv
   exact MH hm (by simp [execOp,o9,ex,Op.unary]) (Ace _)
  ·cases hv
 ·cases hv
theorem Ar6 (hm:GR B S w0 m) (hs:I0 B S m ρ a.eval) {k:IntKind} {x':C4} (h:FW P num o.op (.conv k x')=true) {k':IntKind} {n:Int} (hx:ρ x' = .int k' n):I9 B S w0 P o a m (.val (.int k (k.wrap n))):=by
 obtain ⟨s,d,x,ds,o9,My,hd,h1⟩:=Au5 h;have ex:=YN (hx ▸ hs x x' h1);refine MH hm (u := .int k (k.wrap n)) ?_ (sD _ _);simp [execOp,o9,ex,convert,run_underlying My,run_underlying hd,Conv.intToInt]
theorem AwN (t:TypeId) (a:Option Addr) (n c:Nat) {e:TypeId} (hu:P.underlying t=some (.slice e)) (w:World):(Op.equal t (.slice a n c) (.slice none 0 0)).run P w = .ok a.isNone w:=by
 have h : ∀ d:Nat,(Op.equalIn (d+1) t (.slice a n c) (.slice none 0 0)).run P w = .ok a.isNone w:=λ d=>by
  unfold Op.equalIn;rw[Sem.run_bind,run_underlying hu];cases a<;>rfl
 exact h 9999
theorem AwL (f:BinOp) (t:TypeId) (x y:Operand) (a b:Option Addr) (n c n' c':Nat) (w:World):(eqGuard f t x y (.slice a n c) (.slice b n' c')).run P w = .ok () w:=by
 unfold eqGuard;cases f<;>simp
theorem AbQ (hm:GR B S w0 m) (hs:I0 B S m ρ a.eval) {ne:Bool} {x':C4} (h:FW P num o.op (.Cq ne x')=true) {b:Bool} (hx : ∀ v,CV B S m (ρ x') v -> ∃ ad n c,v = .slice ad n c/\ad.isNone=b) :
  I9 B S w0 P o a m (.val (.bool (xor b ne))):=by
 obtain ⟨t,x,u,e,o9,hu,h1⟩:=Au8 h;obtain ⟨ad,n,c,ex,hb⟩:=hx _ (hs x x' h1);refine MH hm (u := .bool (xor b ne)) ?_ (Ace _);have e0:a.eval (.const (.slice none 0 0)) = .slice none 0 0:=rfl;cases ne<;>cases b<;>simp [execOp,o9,ex,e0,AwL,binOp,AwN t ad n c hu,hb]
theorem wO {v:Value} (h:CV B S m .nil v):v = .slice none 0 0:=by
 cases h with
 | ca h=>cases h with
  | one h=>cases h with
   | rd h=>cases h
   | nil=>rfl
theorem AiQ {b:Bool} {v:Value} (h:CV B S m (.gx (.bool b)) v) : ∃ ad c,v = .slice ad 0 c/\ad.isNone=b:=by
 cases h with
 | ca h=>cases h with
  | one h=>cases h with
   | rd h=>cases h with
    | emp b a cap h=>exact ⟨a,cap,rfl,h⟩
theorem Arx {l:Bool} {e:List AV} {es:List (List AV)} {v:Value} (h:CV B S m (.sl l (e::es)) v) : ∃ ad n c,v = .slice ad n c/\ad.isNone=false:=by
 cases h with
 | ca h=>cases h with
  | one h=>cases h with
   | rd h=>cases h with
    | sl=>exact ⟨_,_,_,rfl,rfl⟩
theorem Arw {s t z off n:Nat} {v:Value} (h:CV B S m (.row s t z off (n+1)) v) : ∃ ad n c,v = .slice ad n c/\ad.isNone=false:=by
 cases h with
 | ca h=>cases h with
  | one h=>cases h with
   | rd h=>cases h
   | row _ _ _ _ _ a cap _ _ _ ha=>exact ⟨_,_,_,rfl,by have:=ha (by omega);cases a<;>simp_all⟩
theorem Asn (hm:GR B S w0 m) (hs:I0 B S m ρ a.eval) {tb:List Nat} {x':C4} (h:FW P num o.op (.nw tb x')=true) {k:IntKind} {n:Int} {v:Nat} (hx:ρ x' = .int k n) (h0:0<=n) (hv:tb[n.toNat]? = some v) :
  I9 B S w0 P o a m (.val (.int .u8 v)):=by
 obtain ⟨t,s,i,o9,hu,Ze,h1⟩:=Ave h;have ex:=YN (hx ▸ hs i x' h1);have hb : ∃ b:UInt8,s[n.toNat]? = some b/\b.toNat=v:=by
  rw[<-Ze,List.getElem?_map]at hv;cases hg:s.data.toList[n.toNat]? with
  | none=>simp [hg]at hv
  | some b =>
   simp only[hg,Option.map_some,Option.some.injEq]at hv;refine ⟨b,?_,hv⟩;have o5:n.toNat<s.size:=by
    have:=(zS hg).1
    simpa using this
   rw[getElem?_pos s n.toNat o5];congr 1;have:=(zS hg).2
   rw[<-this];rfl
 obtain ⟨b,Ib,dd⟩:=hb;refine MH hm (u := .int .u8 v) ?_ (sD _ _);have e0:a.eval (.const (.string s)) = .string s:=rfl;simp [execOp,o9,ex,e0,Instr.index,asIntOf,run_underlying hu,h0,Ib,dd]
theorem Av2 {x c:AV} {v:Value} (h:CV B S m x v) (hc:QL x=some c):CC B S m c v:=by
 cases h with
 | any=>simp [QL]at hc
 | j5=>simp [QL]at hc
 | ca h=>cases h with
  | agg=>simp [QL]at hc
  | fn=>simp [QL]at hc
  | Ec=>simp [QL]at hc
  | one h =>
   have:c=x:=by
    cases h with
    | rd h=>cases h<;>simp [QL]at hc<;>exact hc.symm
    | _=>simp [QL]at hc;exact hc.symm
   subst this;exact h
theorem Ajr (hs:I0 B S m ρ a.eval) : ∀ {xs:List Operand} {y9:List C4} {cs:List AV},LY xs y9=true->y9.mapM (λ x=>QL (ρ x))=some cs->CL B S m cs (xs.map a.eval)
 | [],[],cs,_,h=>by
  simp at h;subst h;exact ⟨rfl,λ j c v h=>by simp at h⟩
 | x::r,y::l,cs,h,hc=>by
  simp only[LY,Bool.and_eq_true]at h;simp only[List.mapM_cons,Option.bind_eq_bind,Option.pure_def]at hc;cases h1:QL (ρ y) with
  | none=>simp [h1]at hc
  | some c =>
   cases h2:l.mapM (λ x=>QL (ρ x)) with
   | none=>simp [h1,h2]at hc
   | some lj =>
    simp [h1,h2]at hc;subst hc;have ih:=Ajr hs h.2 h2;refine ⟨by simpa using ih.1,λ j c' v hj hv => ?_⟩;cases j with
    | zero =>
     simp at hj hv;subst hj hv;exact Av2 (hs x y h.1) h1
    | succ j=>exact ih.2 j c' v (by simpa using hj) (by simpa using hv)
 | [],_::_,_,h,_=>by simp [LY]at h
 | _::_,[],_,h,_=>by simp [LY]at h
theorem Asj (hm:GR B S w0 m) (hs:I0 B S m ρ a.eval) {p:Bool} {f:Nat} {y9:List C4} (h:FW P num o.op (.zh p f y9)=true) {cs:List AV} (hc:y9.mapM (λ x=>QL (ρ x))=some cs) :
  I9 B S w0 P o a m (.val (.fn (p&&cs.isEmpty) f (num f) cs)):=by
 obtain ⟨first,xs,o9,rfl,he⟩:=Avb h;have ag:=Ajr hs he hc;have nq:(xs.map a.eval)=(xs.toList.map a.eval).toArray:=by cases xs;simp
 refine MH hm (u := .func (.func (num f)) #[] (xs.toList.map a.eval).toArray) ?_ (.ca (.fn (p&&cs.isEmpty) f (num f) cs _ (λ h=>by simpa using (Bool.and_eq_true _ _ ▸ h:p=true/\cs.isEmpty=true).2) ag));simp [execOp,o9,Instr.makeFunc,nq]
end
end Go.c9

namespace Go.c9
open Go.RowKit
section
variable {B:Nat} {S:Nat->Prop} {w0:World} {m:M}
variable {P:Program} {num:Nat->Nat} {o:Oper} {a:Act} {ρ:C4->AV}
theorem wK {cs:List AV} {vs:List Value} (h:CL B S m cs vs) {j:Nat} {c:AV} (hj:cs[j]? = some c) : ∃ u,vs[j]? = some u/\CC B S m c u:=by
 have o5:j<cs.length:=(zS hj).1;have Fg:j<vs.length:=by rw[<-h.1];exact o5
 exact ⟨vs[j],zE Fg,h.2 j c _ hj (zE Fg)⟩
theorem AvT {s:Nat} {b:LS} {w':World} {g:Nat}:CV B S ⟨l6 m s (some g),m.own.put s ((m.own s).new b),w'⟩ (.ptr s (m.own.k9 s) 0 0) (.pointer (some ⟨g,0,none⟩)):=by
 refine .ca (.one (.ptr s (m.own.k9 s) 0 0 ⟨g,0,none⟩ ?_ λ b' o8=>⟨g,?_,by simp⟩))
 ·show _<C2.k9 _ s
  rw[dJ];simp
 ·simp [l6]
theorem Ai8 (hm:GR B S w0 m) (s:Nat) (cs:List AV) (vs:Array Value) (e:TypeId) (hc:CL B S m cs vs.toList) (h:(execOp a.eval o).run P m.w = .ok (.value (.pointer (some ⟨m.w.heap.size,0,none⟩))) (m.w.alloc (.cells vs e))) :
  I9 B S w0 P o a m (.new s ⟨cs.length,[cs]⟩ (λ t => .ptr s t 0 0)):=by
 intro K Q hK;obtain ⟨h1,h2⟩:=AdF hm s ⟨cs.length,[cs]⟩ vs e (by simp) (λ i lj hi j c hj=>by
  cases i with
  | zero =>
   obtain rfl:cs=lj:=by simpa using hi
   obtain ⟨u,hu,fi⟩:=wK hc hj;exact ⟨u,by simpa using hu,fi⟩
  | succ i=>simp at hi)
 exact qV h (hK _ ⟨l6 m s (some m.w.heap.size),m.own.put s ((m.own s).new ⟨cs.length,[cs]⟩),m.w.alloc (.cells vs e)⟩ rfl h1 h2 AvT)
theorem ArX (hm:GR B S w0 m) (hs:I0 B S m ρ a.eval) {s:Nat} {x':C4} (h:FW P num o.op (.box s x')=true) {cs:List AV} (hc:cellsOf (ρ x')=some cs) :
  I9 B S w0 P o a m (.new s ⟨cs.length,[cs]⟩ (λ t => .ptr s t 0 0)):=by
 obtain ⟨t,x,o9,h1⟩:=AuY h;exact Ai8 hm s cs (a.eval x).cells t (AbK (hs x x' h1) hc) (by simp [execOp,o9,Instr.box,newVar,newRow])
theorem ArS (hm:GR B S w0 m) {s:Nat} {z:List AV} (h:FW P num o.op (.alloc s z)=true):I9 B S w0 P o a m (.new s ⟨z.length,[z]⟩ (λ t => .ptr s t 0 0)):=by
 obtain ⟨t,o9,h1⟩:=AuV h;obtain ⟨i,v,hi,hz,he⟩:=Aht h1;exact Ai8 hm s z v.cells t (wZ he) (by simp [execOp,o9,Instr.alloc,zeroValue,typeInfo,hi,hz,newVar,newRow])
theorem Ae9 (off:Nat) : ∀ (vs:List Value) (k:Nat) (cells:Array Value),off+k+vs.length<=cells.size ->
  ((vs.zipIdx k).foldl (λ cs (x:Value × Nat)=>cs.setIfInBounds (off+x.2) x.1) cells).toList=cells.toList.take (off+k)++vs++cells.toList.drop (off+k+vs.length)
 | [],k,cells,_=>by simp
 | v::r,k,cells,h=>by
  simp only[List.length_cons]at h;rw[List.zipIdx_cons,List.foldl_cons,Ae9 off r (k+1) _ (by simp;omega)];simp only[Array.toList_setIfInBounds,List.length_cons];apply List.ext_getElem?;intro q;have e1:(cells.toList.set (off+k) v).drop (off+(k+1)+r.length)=cells.toList.drop (off+k+(r.length+1)):=by
   rw[show off+(k+1)+r.length=off+k+(r.length+1) by omega];exact List.drop_set_of_lt (by omega)
  have e2:(cells.toList.set (off+k) v).take (off+(k+1))=cells.toList.take (off+k)++[v]:=by
   rw[show off+(k+1)=off+k+1 by omega,List.take_succ_eq_append_getElem (by simp;omega)];simp [List.take_set_of_le]
  rw[e1,e2];simp
theorem Ae0 (place:Nat->Option (Nat × Nat)) (hs:I0 B S m ρ a.eval) : ∀ (ps:List (Nat × Operand)) (ko:List (Nat × Nat × C4)) (cs lj:List AV) (vs:Array Value),uP place ps ko=true->CL B S m cs vs.toList ->
  fill cs (ko.map λ p=>(p.1,p.2.1,ρ p.2.2))=some lj -> ∃ ig,Instr.fill place vs (ps.map λ p=>(p.1,a.eval p.2))=some ig/\CL B S m lj ig.toList
 | [],[],cs,lj,vs,_,hc,hf=>by
  simp [fill]at hf;subst hf;exact ⟨vs,rfl,hc⟩
 | (i,x)::r,(off,n,y)::l,cs,lj,vs,hp,hc,hf=>by
  simp only[uP,Bool.and_eq_true,beq_iff_eq]at hp;obtain ⟨⟨hp1,hp2⟩,hp3⟩:=hp;simp only[List.map_cons,fill]at hf;cases hcell:cellsOf (ρ y) with
  | none=>simp [hcell]at hf
  | some us =>
   simp only[hcell]at hf;split at hf
   ·rename_i hn
    obtain ⟨hn1,hn2⟩:=hn;have mq:=AbK (hs x y hp2) hcell;have di:(a.eval x).cells.size=n:=by rw[<-hn1,mq.1];simp
    have Ob:off+(a.eval x).cells.size<=vs.size:=by rw[di];have:=hc.1;simp at this;omega
    have Er:=Ae9 off (a.eval x).cells.toList 0 vs (by simpa using Ob);have oo:Instr.fill place vs (((i,x)::r).map λ p=>(p.1,a.eval p.2))=Instr.fill place ((a.eval x).cells.zipIdx.foldl (λ cs (c,j)=>cs.setIfInBounds (off+j) c) vs) (r.map λ p=>(p.1,a.eval p.2)):=by
     simp only[List.map_cons,Instr.fill,hp1];rw[if_neg (by simp;omega)]
    rw[oo];refine Ae0 place hs r l (splice cs off us) lj _ hp3 ?_ hf;have hz:((a.eval x).cells.zipIdx.foldl (λ cs (c,j)=>cs.setIfInBounds (off+j) c) vs).toList=vs.toList.take off++(a.eval x).cells.toList++vs.toList.drop (off+(a.eval x).cells.toList.length):=by
     rw[<-Array.foldl_toList];simpa using Er
    rw[hz];unfold splice;refine ⟨?_,λ j c v hj hv => ?_⟩
    ·have:=hc.1;have:=mq.1;simp at *;omega
    ·have na:=hc.1
     have pc:=mq.1;simp only[Array.length_toList]at na pc;rw[List.getElem?_append]at hj hv;simp only[List.length_append,List.length_take,Array.length_toList]at hj hv;rw[List.getElem?_append]at hj hv;simp only[List.length_take,Array.length_toList]at hj hv;have oa:min off cs.length=off:=by omega
     have od:min off vs.size=off:=by omega
     rw[oa]at hj;rw[od]at hv;rw[<-pc]at hv;split at hj
     ·rename_i h1
      rw[if_pos h1]at hv;split at hj
      ·rename_i h2
       rw[if_pos h2]at hv;rw[List.getElem?_take]at hj hv;rw[if_pos h2]at hj hv;exact hc.2 j c v hj hv
      ·rename_i h2
       rw[if_neg h2]at hv;exact mq.2 _ c v hj hv
     ·rename_i h1
      rw[if_neg h1]at hv;rw[List.getElem?_drop]at hj hv;exact hc.2 _ c v hj hv
   ·cases hf
 | [],_::_,_,_,_,hp,_,_=>by simp [uP]at hp
 | _::_,[],_,_,_,hp,_,_=>by simp [uP]at hp
theorem ArZ (hm:GR B S w0 m) (hs:I0 B S m ρ a.eval) {z:List AV} {ko:List (Nat × Nat × C4)} (h:FW P num o.op (.build z ko)=true) {cs:List AV} (hf:fill z (ko.map λ p=>(p.1,p.2.1,ρ p.2.2))=some cs) :
  I9 B S w0 P o a m (.val (.agg cs)):=by
 obtain ⟨t,ps,o9,h1,h2⟩:=Au0 h;obtain ⟨i,v,hi,hz,he⟩:=Aht h1;have key : ∃ ig,P.built t (ps.map λ p=>(p.1,a.eval p.2)).toList=some ig/\CL B S m cs ig.toList:=by
  unfold AdM at h2;unfold Program.built;split at h2
  ·rename_i fs hu
   split at h2
   ·rename_i places hp
    obtain ⟨ig,h3,h4⟩:=Ae0 _ hs ps.toList ko z cs v.cells h2 (wZ he) hf;refine ⟨ig,?_,h4⟩;simp only[hi,hu,hz,hp,Array.toList_map];exact h3
   ·cases h2
  ·rename_i n e hu
   split at h2
   ·rename_i ie hie
    obtain ⟨ig,h3,h4⟩:=Ae0 _ hs ps.toList ko z cs v.cells h2 (wZ he) hf;refine ⟨ig,?_,h4⟩;simp only[hi,hu,hz,hie,Array.toList_map];exact h3
   ·cases h2
  ·cases h2
 obtain ⟨ig,h3,h4⟩:=key;refine MH hm (u := .agg ig) ?_ (.ca (by simpa using CA.agg cs ig.toList h4));simp only[execOp,o9,Sem.run_bind];rw[run_build m.w t _ ig h3];rfl
theorem AkE (size:Nat) (hs:I0 B S m ρ a.eval) : ∀ (ps:List (Nat × Operand)) (ko:List C4) (k:Nat) (es:List (List AV)) (vs:Array Value),tT k ps ko=true->ko.mapM (λ x=>cellsOf (ρ x))=some es->(∀ e∈es,e.length=size)->vs.size=(k+ko.length)*size ->
  ∃ ig,Instr.fill (λ i=>some (i*size,size)) vs (ps.map λ p=>(p.1,a.eval p.2))=some ig/\ig.size=vs.size/\(∀ q,q<k*size->ig[q]? = vs[q]?) /\ ∀ i cs,es[i]? = some cs -> ∀ j c,cs[j]? = some c -> ∃ u,ig[(k+i)*size+j]? = some u/\CC B S m c u
 | [],[],k,es,vs,_,qz,_,_=>by
  simp at qz;subst qz;exact ⟨vs,rfl,rfl,λ_ _=>rfl,λ i cs hi=>by simp at hi⟩
 | (i,x)::r,y::l,k,es,vs,he,qz,hz,hv=>by
  simp only[tT,Bool.and_eq_true,beq_iff_eq]at he;obtain ⟨⟨rfl,h1⟩,h2⟩:=he;simp only[List.mapM_cons,Option.bind_eq_bind,Option.pure_def]at qz;cases hcell:cellsOf (ρ y) with
  | none=>simp [hcell]at qz
  | some us =>
   cases jq:l.mapM (λ x=>cellsOf (ρ x)) with
   | none=>simp [hcell,jq]at qz
   | some es' =>
    simp [hcell,jq]at qz;subst qz;have mq:=AbK (hs x y h1) hcell;have hus:us.length=size:=hz us (by simp);have di:(a.eval x).cells.size=size:=by rw[<-hus,mq.1];simp
    simp only[List.length_cons]at hv;have hle:i*size+size<=vs.size:=by rw[hv,show i+(l.length+1)=i+1+l.length by omega,Nat.add_mul,Nat.add_mul];omega
    have Er:=Ae9 (i*size) (a.eval x).cells.toList 0 vs (by simp [di];omega);generalize Zi:(a.eval x).cells.zipIdx.foldl (λ cs (c,j)=>cs.setIfInBounds (i*size+j) c) vs=Qs;have tj:Qs.toList=vs.toList.take (i*size)++(a.eval x).cells.toList++vs.toList.drop (i*size+size):=by
     rw[<-Zi,<-Array.foldl_toList];simpa [di] using Er
    have Hg:Qs.size=vs.size:=by
     have:=congrArg List.length tj
     simp [di]at this;omega
    obtain ⟨ig,h3,h4,h5,h6⟩:=AkE size hs r l (i+1) es' Qs h2 jq (λ e he=>hz e (by simp [he])) (by rw[Hg,hv];congr 1;omega);refine ⟨ig,?_,h4.trans Hg,λ q hq => ?_,λ i' cs bu j c hj => ?_⟩
    ·simp only[List.map_cons,Instr.fill]
     rw[if_neg (by simp [di];omega),Zi];exact h3
    ·rw[h5 q (by rw[Nat.add_mul];omega)]
     have:Qs.toList[q]? = vs.toList[q]? := by
      rw[tj,List.append_assoc,List.getElem?_append_left (by simp;omega),List.getElem?_take,if_pos hq]
     simpa using this
    ·cases i' with
     | zero =>
      obtain rfl:us=cs:=by simpa using bu
      obtain ⟨u,hu,fi⟩:=wK mq hj;have my:j<size:=by rw[<-hus];exact (zS hj).1
      refine ⟨u,?_,fi⟩;rw[Nat.add_zero,h5 _ (by rw[Nat.add_mul];omega)];have:Qs.toList[i*size+j]? = some u:=by
       rw[tj,List.append_assoc,List.getElem?_append_right (by simp;omega)];simp only[List.length_take,Array.length_toList,show min (i*size) vs.size=i*size by omega,show i*size+j-i*size=j by omega];rw[List.getElem?_append_left (by simp [di];omega)];exact hu
      simpa using this
     | succ i' =>
      obtain ⟨u,hu,fi⟩:=h6 i' cs (by simpa using bu) j c hj;exact ⟨u,by rw[show i+(i'+1)=i+1+i' by omega];exact hu,fi⟩
 | [],_::_,_,_,_,he,_,_,_=>by simp [tT]at he
 | _::_,[],_,_,_,he,_,_,_=>by simp [tT]at he
theorem Amh {s z n cap:Nat} {es:List (List AV)} {w':World} {g:Nat} {arr:Array Value} {e:TypeId} (hz:0<z) (hn:n<=cap) (hg:w'.heap[g]? = some (.cells arr e (0,0))) (hc:cap*z<=arr.size) :
  CV B S ⟨l6 m s (some g),m.own.put s ((m.own s).new ⟨z,es⟩),w'⟩ (.row s (m.own.k9 s) z 0 n) (.slice (some ⟨g,0,none⟩) n cap):=by
 refine .ca (.one (.row s (m.own.k9 s) z 0 n _ cap ?_ hz hn (λ_=>rfl) λ b' o8=>⟨?_,.inr ⟨g,arr,e,?_,by simp,hg,by simpa using hc⟩⟩))
 ·show _<C2.k9 _ s
  rw[dJ];simp
 ·change C2.get _ s _=some b' at o8
  rw[PX,if_pos ⟨rfl,rfl⟩]at o8;obtain rfl:(⟨z,es⟩:LS)=b':=by simpa using o8
  rfl
 ·simp [l6]
theorem Ajc (hm:GR B S w0 m) (s z n cap:Nat) (es:List (List AV)) (vs:Array Value) (e:TypeId) (jm:0<z) (hn:n<=cap) (di:cap*z<=vs.size) (hz : ∀ x∈es,x.length=z)
  (hc : ∀ i cs,es[i]? = some cs -> ∀ j c,cs[j]? = some c -> ∃ u,vs[i*z+j]? = some u/\CC B S m c u)
  (h:(execOp a.eval o).run P m.w = .ok (.value (.slice (some ⟨m.w.heap.size,0,none⟩) n cap)) (m.w.alloc (.cells vs e))) :
  I9 B S w0 P o a m (.new s ⟨z,es⟩ (λ t => .row s t z 0 n)):=by
 intro K Q hK;obtain ⟨h1,h2⟩:=AdF hm s ⟨z,es⟩ vs e hz hc;exact qV h (hK _ ⟨l6 m s (some m.w.heap.size),m.own.put s ((m.own s).new ⟨z,es⟩),m.w.alloc (.cells vs e)⟩ rfl h1 h2 (Amh jm hn (heap_alloc_new _ _) di))
theorem ArY (hm:GR B S w0 m) (hs:I0 B S m ρ a.eval) {s b7:Nat} {ko:List C4} (h:FW P num o.op (.a9 s b7 ko)=true) {es:List (List AV)} (qz:ko.mapM (λ x=>cellsOf (ρ x))=some es) (hz : ∀ e∈es,e.length=b7) :
  I9 B S w0 P o a m (.new s ⟨b7,es⟩ (λ t => .row s t b7 0 es.length)):=by
 obtain ⟨t,n,ps,e,i,o9,hu,hi,di,h0,hn,AEI,lk,hzero⟩:=AuZ h;have hlen:es.length=n:=by
  rw[hn];clear h lk hzero hn;induction ko generalizing es with
  | nil=>simp at qz;subst qz;rfl
  | cons y l ih =>
   simp only[List.mapM_cons,Option.bind_eq_bind,Option.pure_def]at qz;cases hcell:cellsOf (ρ y) with
   | none=>simp [hcell]at qz
   | some us =>
    cases jq:l.mapM (λ x=>cellsOf (ρ x)) with
    | none=>simp [hcell,jq]at qz
    | some es' =>
     simp [hcell,jq]at qz;subst qz;simp [ih jq (λ e he=>hz e (by simp [he]))]
 obtain ⟨zc,Jr⟩ : ∃ zc:Array Value,(n*b7=0/\zc = #[])\/(¬ n*b7=0 /\ ∃ z,i.zero=some z/\zc=z.cells):=by
  by_cases u5:n*b7=0
  ·exact ⟨#[],.inl ⟨u5,rfl⟩⟩
  ·rcases hzero with Ho|⟨z,tj,Cm⟩
   ·simp [Ho]at u5
   ·exact ⟨z.cells,.inr ⟨u5,z,tj,rfl⟩⟩
 have Zp:((Array.range (n*b7)).map (zc[· % zc.size]!)).size=n*b7:=by simp
 obtain ⟨ig,h3,h4,_,h6⟩:=AkE b7 hs ps.toList ko 0 es _ lk qz hz (by rw[Zp,hn];simp);have cp:(execOp a.eval o).run P m.w = .ok (.value (.slice (some ⟨m.w.heap.size,0,none⟩) n n)) (m.w.alloc (.cells ig e)):=by
  simp only[execOp,o9,Instr.buildSlice,Sem.run_bind,run_underlying hu,Result.andThen_ok,sizeOf,typeInfo,run_program,hi,Sem.run_pure,di];simp only[show ¬ (n*b7>2^24) from by omega,if_false,Sem.run_bind,Sem.run_pure,Result.andThen_ok];rcases Jr with ⟨Ho,rfl⟩|⟨Ho,z,tj,rfl⟩
  ·simp only[Ho,if_true,Sem.run_bind,Sem.run_pure,Result.andThen_ok,Array.toList_map]
   rw[Ho]at h3;rw[h3];rfl
  ·simp only[Ho,if_false,Sem.run_bind,Sem.run_pure,Result.andThen_ok,Array.toList_map,zeroValue,typeInfo,run_program,hi,tj]
   rw[h3];rfl
 rw[hlen];exact Ajc hm s b7 n n es ig e (Nat.pos_of_ne_zero h0) (Nat.le_refl _) (by rw[h4,Zp];exact Nat.le_refl _) hz (λ i cs bu j c hj=>by simpa using h6 i cs bu j c hj) cp
end
end Go.c9

namespace Go.c9
open Go.RowKit
section
variable {B:Nat} {S:Nat->Prop} {w0:World} {m:M}
variable {P:Program} {num:Nat->Nat} {o:Oper} {a:Act} {ρ:C4->AV}
theorem AbJ {x:AV} {v:Value} (h:CV B S m x v) (h1:x ≠ .any) (h2 : ∀ cs,x ≠ .agg cs) (h3 : ∀ cs,x ≠ .j5 cs) (h4 : ∀ p f g cs,x ≠ .fn p f g cs:=by intros;simp):CC B S m x v:=by
 cases h with
 | any=>exact absurd rfl h1
 | j5 as=>exact absurd rfl (h3 as)
 | ca h=>cases h with
  | one h=>exact h
  | agg cs=>exact absurd rfl (h2 cs)
  | fn p f g cs=>exact absurd rfl (h4 p f g cs)
  | Ec f g cs=>exact absurd rfl (h4 true f g cs)
theorem Tr {s t i j:Nat} {v:Value} (h:CV B S m (.ptr s t i j) v) : ∃ ad,v = .pointer (some ad)/\t<m.own.k9 s /\ ∀ b,m.own.get s t=some b -> ∃ g,m.ν s t=some g/\ad=⟨g,i*b.b7+j,none⟩:=by
 cases AbJ h (by simp) (by simp) (by simp) with
 | rd h=>cases h
 | ptr s t i j ad ht h'=>exact ⟨ad,rfl,ht,h'⟩
theorem Ad7 {cs:List AV} {v:Value} (h:CV B S m (.db cs) v) : ∃ (b o:Nat) (u:Nat->Value) (l:Bool),v = .pointer (some ⟨b,o,none⟩)/\(cs≠[]->safe B S m l b)/\(∀ j c,cs[j]? = some c->m.w.cell? ⟨b,o+j,none⟩=some (u j))/\(∀ j c,cs[j]? = some c->Rd m.w (safe B S m) c (u j)):=by
 cases AbJ h (by simp) (by simp) (by simp) with
 | rd h=>cases h
 | db _ b o u l h1 h2 h3=>exact ⟨b,o,u,l,rfl,h1,h2,h3⟩
theorem wV {s t z off len:Nat} {v:Value} (h:CV B S m (.row s t z off len) v) : ∃ (ad:Option Addr) (cap:Nat),v = .slice ad len cap/\t<m.own.k9 s/\0<z/\len<=cap/\(0<len->ad.isSome=true) /\
  ∀ b,m.own.get s t=some b->b.b7=z/\((len=0/\cap=0) \/ ∃ g arr e,m.ν s t=some g/\ad=some ⟨g,off*z,none⟩/\m.w.heap[g]? = some (.cells arr e (0,0))/\(off+cap)*z<=arr.size):=by
 cases AbJ h (by simp) (by simp) (by simp) with
 | rd h=>cases h
 | row s t z off len ad cap ht jm su ha h'=>exact ⟨ad,cap,rfl,ht,jm,su,ha,h'⟩
theorem AbL {l:Bool} {es:List (List AV)} {v:Value} (h:CV B S m (.sl l es) v):Rd m.w (safe B S m) (.sl l es) v:=by
 cases AbJ h (by simp) (by simp) (by simp) with
 | rd h=>exact h
theorem Ar9 (hm:GR B S w0 m) (hs:I0 B S m ρ a.eval) {x':C4} {off:Nat} (h:FW P num o.op (.m4 x' off)=true) {s t i j:Nat} (hx:ρ x' = .ptr s t i j):I9 B S w0 P o a m (.val (.ptr s t i (j+off))):=by
 obtain ⟨ty,x,f,fs,fd,inf,o9,h1,hu,hf,ho,hi,di⟩:=All h;obtain ⟨ad,hv,ht,hb⟩:=Tr (hx ▸ hs x x' h1);refine MH hm (u := .pointer (some (ad.add off))) ?_ (.ca (.one (.ptr s t i (j+off) _ ht λ b o8 => ?_)))
 ·simp [execOp,o9,hv,Instr.fieldAt,run_underlying hu,hf,Instr.sureAddr,fieldPlace,sizeOf,typeInfo,hi,di,ho]
 ·obtain ⟨g,hg,rfl⟩:=hb b o8
  exact ⟨g,hg,by rw[WC];simp;omega⟩
theorem Ar8 (hm:GR B S w0 m) (hs:I0 B S m ρ a.eval) {x':C4} {off:Nat} (h:FW P num o.op (.m4 x' off)=true) {cs:List AV} (hx:ρ x' = .db cs):I9 B S w0 P o a m (.val (.db (cs.drop off))):=by
 obtain ⟨ty,x,f,fs,fd,inf,o9,h1,hu,hf,ho,hi,di⟩:=All h;obtain ⟨b,ob,u,l,hv,hR,hc,hr⟩:=Ad7 (hx ▸ hs x x' h1);refine MH hm (u := .pointer (some ⟨b,ob+off,none⟩)) ?_ (.ca (.one (.db _ b (ob+off) (λ j=>u (off+j)) l (λ u5=>hR (λ e=>u5 (by simp [e]))) (λ j c hj => ?_) (λ j c hj => ?_))))
 ·simp [execOp,o9,hv,Instr.fieldAt,run_underlying hu,hf,Instr.sureAddr,fieldPlace,sizeOf,typeInfo,hi,di,ho,WC]
 ·rw[List.getElem?_drop]at hj
  rw[Nat.add_assoc];exact hc _ c hj
 ·rw[List.getElem?_drop]at hj
  exact hr _ c hj
theorem Acn {agg:Bool} {cs:List AV} {v:AV} (h:cP agg cs=some v) {vs:List Value} (hc:CL B S m cs vs):CV B S m v (if agg then .agg vs.toArray else vs.getD 0 undef)/\(agg=false->vs.length=1):=by
 unfold cP at h;cases agg with
 | true =>
  obtain rfl:AV.agg cs=v:=by simpa using h
  exact ⟨.ca (.agg cs vs hc),by simp⟩
 | false =>
  simp only[Bool.false_eq_true,if_false]at h;split at h
  ·rename_i c
   obtain rfl:c=v:=by simpa using h
   obtain ⟨u,hu,fi⟩:=wK hc (j:=0) (c:=c) rfl;refine ⟨?_,λ_=>by rw[<-hc.1];rfl⟩;simp only[Bool.false_eq_true,if_false,List.getD,hu,Option.getD_some];exact .ca (.one fi)
  ·cases h
theorem AwQ (t:TypeId) (agg:Bool) (inf:TypeInfo) (qp : ∀ w,(isAgg t).run P w = .ok agg w) (hi:P.info? t=some inf) (vs:List Value) (off n:Nat) (hn:inf.size=n) (hle:off+n<=vs.length) (h1:agg=false->n=1) (w:World) :
  (Go.part t vs.toArray off).run P w = .ok (if agg then .agg ((vs.drop off).take n).toArray else ((vs.drop off).take n).getD 0 undef) w:=by
 unfold Go.part;rw[Sem.run_bind,qp w];cases agg with
 | true=>simp [sizeOf,typeInfo,hi,hn,List.extract_eq_take_drop]
 | false =>
  have o5:off<vs.length:=by have:=h1 rfl;omega
  simp [o5,h1 rfl]
theorem Asa (hm:GR B S w0 m) (hs:I0 B S m ρ a.eval) {x':C4} {off n:Nat} {agg:Bool} (h:FW P num o.op (.ye x' off n agg)=true) {cs ds:List AV} {v:AV} (hx:ρ x' = .agg cs) (hp:part cs off n=some ds) (hv:cP agg ds=some v) :
  I9 B S w0 P o a m (.val v):=by
 obtain ⟨ty,x,f,fs,fd,inf,o9,h1,hu,hf,ho,hi,di,qp,h0⟩:=Au7 h;obtain ⟨vs,iv,ag⟩:=Ars (hx ▸ hs x x' h1);unfold c9.part at hp;split at hp
 ·rename_i hle
  obtain rfl:(cs.drop off).take n=ds:=by simpa using hp
  obtain ⟨du,Ag⟩:=Acn hv (Aq5 ag off n);have hl:=ag.1;have Bv:agg=false->n=1:=λ e=>by have:=Ag e;simp at this;omega
  refine MH hm ?_ du;simp only[execOp,o9,Sem.run_bind,Instr.field,run_underlying hu,Result.andThen_ok,hf,iv,asAgg,Sem.run_pure,ho];rw[AwQ fd.type agg inf qp hi vs off n di (by omega) Bv];rfl
 ·cases hp
theorem Asb (hm:GR B S w0 m) (hs:I0 B S m ρ a.eval) {len b7:Nat} {x' i':C4} (h:FW P num o.op (.ch (some len) b7 x' i')=true) {k:IntKind} {n:Int} {s t i0 j:Nat} (bu:ρ i' = .int k n) (hx:ρ x' = .ptr s t i0 j) (h0:0<=n) (hn:n<len) :
  I9 B S w0 P o a m (.val (.ptr s t i0 (j+n.toNat*b7))):=by
 obtain ⟨ty,x,i,e,inf,o9,h1,h2,hi,di,lu⟩:=Ab7 h;rcases lu with ⟨Cz,hl,hu,o5⟩|⟨hl,_⟩
 ·obtain rfl:len=Cz:=by simpa using hl
  obtain ⟨ad,hv,ht,hb⟩:=Tr (hx ▸ hs x x' h1);have Hc:=YN (bu ▸ hs i i' h2);refine MH hm (u := .pointer (some (ad.add (n.toNat*b7)))) ?_ (.ca (.one (.ptr s t i0 (j+n.toNat*b7) _ ht λ b o8 => ?_)))
  ·simp [execOp,o9,hv,Hc,Instr.indexAt,asIntOf,run_underlying hu,Instr.sureAddr,sizeOf,typeInfo,hi,di,h0,hn]
  ·obtain ⟨g,hg,rfl⟩:=hb b o8
   exact ⟨g,hg,by rw[WC];simp;omega⟩
 ·cases hl
theorem Asc (hm:GR B S w0 m) (hs:I0 B S m ρ a.eval) {len b7:Nat} {x' i':C4} (h:FW P num o.op (.ch (some len) b7 x' i')=true) {k:IntKind} {n:Int} {cs:List AV} (bu:ρ i' = .int k n) (hx:ρ x' = .db cs) (h0:0<=n) (hn:n<len) :
  I9 B S w0 P o a m (.val (.db (cs.drop (n.toNat*b7)))):=by
 obtain ⟨ty,x,i,e,inf,o9,h1,h2,hi,di,lu⟩:=Ab7 h;rcases lu with ⟨Cz,hl,hu,o5⟩|⟨hl,_⟩
 ·obtain rfl:len=Cz:=by simpa using hl
  obtain ⟨b,ob,u,l,hv,hR,hc,hr⟩:=Ad7 (hx ▸ hs x x' h1);have Hc:=YN (bu ▸ hs i i' h2);refine MH hm (u := .pointer (some ⟨b,ob+n.toNat*b7,none⟩)) ?_ (.ca (.one (.db _ b (ob+n.toNat*b7) (λ j=>u (n.toNat*b7+j)) l (λ u5=>hR (λ e=>u5 (by simp [e]))) (λ j c hj => ?_) (λ j c hj => ?_))))
  ·simp [execOp,o9,hv,Hc,Instr.indexAt,asIntOf,run_underlying hu,Instr.sureAddr,sizeOf,typeInfo,hi,di,h0,hn,WC]
  ·rw[List.getElem?_drop]at hj
   rw[Nat.add_assoc];exact hc _ c hj
  ·rw[List.getElem?_drop]at hj
   exact hr _ c hj
 ·cases hl
theorem Ana (ty e:TypeId) (inf:TypeInfo) (hu:P.underlying ty=some (.slice e)) (hi:P.info? e=some inf) (ad:Addr) (len cap:Nat) (k:IntKind) (n:Int) (h0:0<=n) (hn:n<len) (w:World) :
  (Instr.indexAt ty (.slice (some ad) len cap) (.int k n)).run P w = .ok (.pointer (some (ad.add (n.toNat*inf.size)))) w:=by
 simp [Instr.indexAt,asIntOf,run_underlying hu,sizeOf,typeInfo,hi,h0,hn]
theorem Asd (hm:GR B S w0 m) (hs:I0 B S m ρ a.eval) {b7:Nat} {x' i':C4} (h:FW P num o.op (.ch none b7 x' i')=true) {k:IntKind} {n:Int} {s t z off len:Nat} (bu:ρ i' = .int k n) (hx:ρ x' = .row s t z off len) (h0:0<=n) (hn:n<len) (hz:z=b7) :
  I9 B S w0 P o a m (.val (.ptr s t (off+n.toNat) 0)):=by
 obtain ⟨ty,x,i,e,inf,o9,h1,h2,hi,di,lu⟩:=Ab7 h;rcases lu with ⟨_,hl,_⟩|⟨_,hu,_⟩
 ·cases hl
 ·obtain ⟨ad,cap,hv,ht,jm,su,ha,hb⟩:=wV (hx ▸ hs x x' h1)
  have Hc:=YN (bu ▸ hs i i' h2);obtain ⟨Pf,rfl⟩:=Option.isSome_iff_exists.1 (ha (by omega));refine MH hm (u := .pointer (some (Pf.add (n.toNat*b7)))) ?_ (.ca (.one (.ptr s t (off+n.toNat) 0 _ ht λ b o8 => ?_)))
  ·simp only[execOp,o9,hv,Hc,Sem.run_bind]
   rw[Ana ty e inf hu hi Pf len cap k n h0 hn,di];rfl
  ·obtain ⟨Bc,lu⟩:=hb b o8
   rcases lu with ⟨Ez,_⟩|⟨g,arr,e',hg,uh,_,_⟩
   ·omega
   ·obtain rfl:Pf=⟨g,off*z,none⟩:=by simpa using uh
    exact ⟨g,hg,by rw[WC,Bc,<-hz,Nat.add_mul];rfl⟩
theorem Ase (hm:GR B S w0 m) (hs:I0 B S m ρ a.eval) {b7:Nat} {x' i':C4} (h:FW P num o.op (.ch none b7 x' i')=true) {k:IntKind} {n:Int} {l:Bool} {es:List (List AV)} {cs:List AV} (bu:ρ i' = .int k n) (hx:ρ x' = .sl l es) (h0:0<=n) (hn:es[n.toNat]? = some cs) (hz:cs.length=b7) :
  I9 B S w0 P o a m (.val (.db cs)):=by
 obtain ⟨ty,x,i,e,inf,o9,h1,h2,hi,di,lu⟩:=Ab7 h;rcases lu with ⟨_,hl,_⟩|⟨_,hu,_⟩
 ·cases hl
 ·have vk:=AbL (hx ▸ hs x x' h1)
  have Hc:=YN (bu ▸ hs i i' h2);have o5:n.toNat<es.length:=(zS hn).1;generalize iv:a.eval x=v at vk;cases vk with
  | rm=>simp at o5
  | sl _ _ b ob dh cap u u5 hp hR gu ri hc hr =>
   have Zn:dh=b7:=by
    rw[<-hz];exact (ri cs (zM hn)).symm
   subst Zn;refine MH hm (u := .pointer (some ⟨b,ob+n.toNat*dh,none⟩)) ?_ (.ca (.one (.db _ b (ob+n.toNat*dh) (u n.toNat) l (λ_=>hR) (λ j c hj => ?_) (λ j c hj=>hr _ cs hn j c hj))))
   ·simp only[execOp,o9,iv,Hc,Sem.run_bind]
    rw[Ana ty e inf hu hi ⟨b,ob,none⟩ es.length cap k n h0 (by omega),di,WC];rfl
   ·rw[Nat.add_assoc]
    exact hc _ cs hn j c hj
end
end Go.c9

namespace Go.c9
open Go.RowKit
section
variable {B:Nat} {S:Nat->Prop} {w0:World} {m:M}
variable {P:Program} {num:Nat->Nat} {o:Oper} {a:Act} {ρ:C4->AV}
theorem Agt (t:TypeId) (agg:Bool) (n:Nat) (qp : ∀ w,(isAgg t).run P w = .ok agg w) (hn:if agg then ∃ i,P.info? t=some i/\i.size=n else n=1) (ad:Addr) (vs:List Value) (hl:vs.length=n) (w:World)
  (hc : ∀ q v,vs[q]? = some v->w.cell? (ad.add q)=some v):(Instr.loadAt t (.pointer (some ad))).run P w = .ok (if agg then .agg vs.toArray else vs.getD 0 undef) w:=by
 unfold Instr.loadAt loadVar;simp only[Instr.sureAddr,Sem.run_bind,Sem.run_pure,Result.andThen_ok,qp w];cases agg with
 | true =>
  simp only[if_true]at hn;obtain ⟨i,hi,hs⟩:=hn;have:=run_loadCells_list (P:=P) w ad vs hc
  simp [sizeOf,typeInfo,hi,hs,<-hl,this]
 | false =>
  simp only[Bool.false_eq_true,if_false]at hn ⊢;have o5:0<vs.length:=by omega
  have h0:=hc 0 vs[0] (zE o5);have Ho:w.cell? ad=some vs[0]:=by simpa [Addr.add] using h0
  simp [load,Sem.run,Ho,o5]
theorem AmA (hm:GR B S w0 m) {s t i j n:Nat} {cs:List AV} (h:m.own.Ao s t i j n=some cs) : ∃ b g arr e,m.own.get s t=some b/\(0<n->m.ν s t=some g/\m.w.heap[g]? = some (.cells arr e (0,0))) /\
  ∃ vs:List Value,vs.length=n/\CL B S m cs vs /\ ∀ q v,vs[q]? = some v->arr[i*b.b7+j+q]? = some v:=by
 unfold C2.Ao at h;cases hb:m.own.get s t with
 | none=>simp [hb]at h
 | some b =>
  simp only[hb]at h;cases he:b.es[i]? with
  | none=>simp [he]at h
  | some ds =>
   simp only[he,part]at h;split at h
   ·rename_i hle
    obtain rfl:(ds.drop j).take n=cs:=by simpa using h
    obtain ⟨hz,jy⟩:=hm.k8 s t b hb;cases hν:m.ν s t with
    | none =>
     rw[hν]at jy;rw[jy]at he;simp at he
    | some g =>
     rw[hν]at jy;obtain ⟨hB,arr,e,hh,fi⟩:=jy;have di : ∀ q,q<n -> ∃ u,arr[i*b.b7+j+q]? = some u:=λ q hq=>by
      have o5:j+q<ds.length:=by omega
      obtain ⟨u,hu,_⟩:=fi i ds he (j+q) ds[j+q] (zE o5);exact ⟨u,by rw[<-hu];congr 1;omega⟩
     refine ⟨b,g,arr,e,rfl,λ_=>⟨rfl,hh⟩,(arr.toList.drop (i*b.b7+j)).take n,?_,⟨?_,?_⟩,?_⟩
     ·rw[List.length_take,List.length_drop]
      rcases Nat.eq_zero_or_pos n with h0|h0
      ·omega
      ·obtain ⟨u,hu⟩:=di (n-1) (by omega)
       have:=(Array.getElem?_eq_some_iff.1 hu).1
       simp;omega
     ·rw[List.length_take,List.length_take,List.length_drop,List.length_drop]
      rcases Nat.eq_zero_or_pos n with h0|h0
      ·omega
      ·obtain ⟨u,hu⟩:=di (n-1) (by omega)
       have:=(Array.getElem?_eq_some_iff.1 hu).1
       simp;omega
     ·intro q c v hq hv
      rw[List.getElem?_take]at hq hv;split at hq
      ·rename_i Ys
       rw[if_pos Ys]at hv;rw[List.getElem?_drop]at hq hv;obtain ⟨u,hu,hc⟩:=fi i ds he (j+q) c hq;have:some u=some v:=by
        rw[<-hu,<-hv];simp only[Array.getElem?_toList];congr 1;omega
       obtain rfl:u=v:=by simpa using this
       exact hc
      ·cases hq
     ·intro q v hv
      rw[List.getElem?_take]at hv;split at hv
      ·rw[List.getElem?_drop]at hv
       simpa using hv
      ·cases hv
   ·cases h
theorem AbC {w:World} {g p:Nat} {arr:Array Value} {e:TypeId} (h:w.heap[g]? = some (.cells arr e (0,0))):w.cell? ⟨g,p,none⟩=arr[p]? := by
 simp [World.cell?,h]
theorem Asg (hm:GR B S w0 m) (hs:I0 B S m ρ a.eval) {agg:Bool} {n:Nat} {x':C4} (h:FW P num o.op (.ld agg n x')=true) {s t i j:Nat} {cs:List AV} {v:AV} (hx:ρ x' = .ptr s t i j) (hl:m.own.Ao s t i j n=some cs) (hv:cP agg cs=some v) :
  I9 B S w0 P o a m (.val v):=by
 obtain ⟨ty,x,o9,h1,qp,hn⟩:=Alm h;obtain ⟨ad,iv,ht,hb⟩:=Tr (hx ▸ hs x x' h1);obtain ⟨b,g,arr,e,z9,hg,vs,ti,ag,mi⟩:=AmA hm hl;obtain ⟨du,_⟩:=Acn hv ag;refine MH hm ?_ du;simp only[execOp,o9,Sem.run_bind,iv];rw[Agt ty agg n qp hn ad vs ti m.w (λ q u hq => ?_)]
 ·rfl
 ·have o5:q<vs.length:=(zS hq).1
  obtain ⟨Nc,ub⟩:=hg (by omega);obtain ⟨g',lq,rfl⟩:=hb b z9;obtain rfl:g=g':=by rw[Nc]at lq;simpa using lq
  rw[WC,AbC ub];exact mi q u hq
theorem Asf (hm:GR B S w0 m) (hs:I0 B S m ρ a.eval) {agg:Bool} {n:Nat} {x':C4} (h:FW P num o.op (.ld agg n x')=true) {cs ds:List AV} {v:AV} (hx:ρ x' = .db cs) (hl:part cs 0 n=some ds) (hv:cP agg ds=some v) :
  I9 B S w0 P o a m (.val v):=by
 obtain ⟨ty,x,o9,h1,qp,hn⟩:=Alm h;obtain ⟨b,ob,u,l,iv,hR,hc,hr⟩:=Ad7 (hx ▸ hs x x' h1);unfold c9.part at hl;split at hl
 ·rename_i hle
  obtain rfl:(cs.drop 0).take n=ds:=by simpa using hl
  have ag:CL B S m ((cs.drop 0).take n) ((List.range n).map u):=by
   refine ⟨by simp;omega,λ q c v' hq ql => ?_⟩;simp only[List.drop_zero,List.getElem?_take]at hq;split at hq
   ·rename_i Ys
    simp [Ys]at ql;subst ql;exact .rd (hr q c hq)
   ·cases hq
  obtain ⟨du,_⟩:=Acn hv ag;refine MH hm ?_ du;simp only[execOp,o9,Sem.run_bind,iv];rw[Agt ty agg n qp hn ⟨b,ob,none⟩ ((List.range n).map u) (by simp) m.w (λ q w' hq => ?_)]
  ·rfl
  ·have Ys:q<n:=by have:=(zS hq).1;simpa using this
   simp [Ys]at hq;subst hq;rw[WC];exact hc q cs[q] (zE (by omega))
 ·cases hl
theorem AgU {α:Type} (l:List α) (off:Nat) (vs:List α) (h:off+vs.length<=l.length) (q:Nat):(l.take off++vs++l.drop (off+vs.length))[q]? = if q<off then l[q]? else if q<off+vs.length then vs[q-off]? else l[q]? := by
 rw[List.append_assoc];by_cases h1:q<off
 ·rw[if_pos h1,List.getElem?_append_left (by simp;omega),List.getElem?_take,if_pos h1]
 ·rw[if_neg h1,List.getElem?_append_right (by simp;omega)]
  have e1:(l.take off).length=off:=by simp;omega
  rw[e1];by_cases h2:q<off+vs.length
  ·rw[if_pos h2,List.getElem?_append_left (by omega)]
  ·rw[if_neg h2,List.getElem?_append_right (by omega),List.getElem?_drop]
   congr 1;omega
theorem Aig (hm:GR B S w0 m) {g:Nat} (hB:B<=g) (arr:Array Value):Below B w0 (m.w.setRow g arr) :=
 hm.below.trans ⟨rfl,rfl,rfl,by simp,λ k hk=>setRow_other _ _ _ _ (by omega)⟩
theorem Ajd (hm:GR B S w0 m) (hs:I0 B S m ρ a.eval) {n:Nat} {x' v':C4} (h:FW P num o.op (.st n x' v')=true) {s t i j:Nat} {vs:List AV} {q8:C2} (hx:ρ x' = .ptr s t i j) (hv:cellsOf (ρ v')=some vs) (hn:vs.length=n) (o4:m.own.yc s t i j vs=some q8) :
  I9 B S w0 P o a m (.mn (.j5 []) q8):=by
 obtain ⟨ty,x,v,inf,o9,h1,h2,hi,di⟩:=Avf h;obtain ⟨ad,iv,ht,hb⟩:=Tr (hx ▸ hs x x' h1);have ag:=AbK (hs v v' h2) hv;unfold C2.yc at o4;cases z9:m.own.get s t with
 | none=>simp [z9]at o4
 | some b =>
  simp only[z9]at o4;cases he:b.es[i]? with
  | none=>simp [he]at o4
  | some cs =>
   simp only[he]at o4;split at o4
   ·rename_i hle
    obtain rfl:=Option.some.inj o4;obtain ⟨hz,jy⟩:=hm.k8 s t b z9;obtain ⟨g,hg,rfl⟩:=hb b z9;rw[hg]at jy;obtain ⟨hB,arr,e,hh,fi⟩:=jy;have AD7:cs.length=b.b7:=hz cs (zM he);have hlen:(a.eval v).cells.toList.length=vs.length:=ag.1.symm;have qg:i<b.es.length:=(zS he).1;have Ob:i*b.b7+j+vs.length<=arr.size:=by
     rcases Nat.eq_zero_or_pos vs.length with h0|h0
     ·rcases Nat.eq_zero_or_pos j with Yh|Yh
      ·rw[h0,Yh]
       rcases Nat.eq_zero_or_pos i with yj|yj
       ·rw[yj];omega
       ·rcases Nat.eq_zero_or_pos b.b7 with jm|jm
        ·rw[jm];omega
        ·have hi1:i-1<b.es.length:=by omega
         have na:(b.es[i-1]).length=b.b7:=hz _ (List.getElem_mem hi1);obtain ⟨u,hu,_⟩:=fi (i-1) _ (zE hi1) (b.b7-1) _ (zE (by omega));have:=(Array.getElem?_eq_some_iff.1 hu).1
         have e1:(i-1)*b.b7+b.b7=i*b.b7:=by
          rw[<-Nat.succ_mul];congr 1;omega
         omega
      ·obtain ⟨u,hu,_⟩:=fi i cs he (j-1) cs[j-1] (zE (by omega))
       have:=(Array.getElem?_eq_some_iff.1 hu).1
       omega
     ·obtain ⟨u,hu,_⟩:=fi i cs he (j+vs.length-1) cs[j+vs.length-1] (zE (by omega))
      have:=(Array.getElem?_eq_some_iff.1 hu).1
      omega
    have Ag:=Aq4 ag;have Fu:=run_storeCells_at (P:=P) g (i*b.b7+j) e (a.eval v).cells.toList 0 arr m.w hh (by rw[hlen];omega) Ag;generalize wm:(arr.toList.take (i*b.b7+j+0)++(a.eval v).cells.toList++arr.toList.drop (i*b.b7+j+0+(a.eval v).cells.toList.length)).toArray=df at Fu;have Kr : ∀ p,df[p]? = if p<i*b.b7+j then arr[p]? else if p<i*b.b7+j+vs.length then (a.eval v).cells.toList[p-(i*b.b7+j)]? else arr[p]? := λ p=>by
     rw[<-wm];simp only[Nat.add_zero,List.getElem?_toArray];rw[AgU _ _ _ (by rw[hlen];simpa using Ob),hlen];simp only[Array.getElem?_toList]
    have Ah:df.size=arr.size:=by
     rw[<-wm];simp [hlen];have:=hlen
     simp at this;omega
    obtain ⟨k1,k2⟩:=AxV hm s t b ⟨b.b7,b.es.set i (splice cs j vs)⟩ z9 g hg arr df e hh rfl (λ y hy=>by
      rcases List.mem_or_eq_of_mem_set hy with hy|hy
      ·exact hz y hy
      ·rw[hy,<-AD7];simp [splice];omega) Ah
     (λ i' lj bu q c hq=>by
      show ∃ u,df[i'*b.b7+q]? = some u/\_;change (b.es.set i (splice cs j vs))[i']? = some lj at bu;by_cases hii:i'=i
      ·subst hii
       rw[List.getElem?_set_self qg]at bu;obtain rfl:splice cs j vs=lj:=by simpa using bu
       unfold splice at hq;rw[AgU _ _ _ hle]at hq;rw[Kr];by_cases Lg:q<j
       ·rw[if_pos Lg]at hq
        rw[if_pos (by omega)];exact fi i' cs he q c hq
       ·rw[if_neg Lg]at hq
        rw[if_neg (by omega)];by_cases Qk:q<j+vs.length
        ·rw[if_pos Qk]at hq
         rw[if_pos (by omega)];obtain ⟨u,hu,mq⟩:=wK ag hq;exact ⟨u,by rw[<-hu];congr 1;omega,mq⟩
        ·rw[if_neg Qk]at hq
         rw[if_neg (by omega)];exact fi i' cs he q c hq
      ·rw[List.getElem?_set_ne (by omega)]at bu
       have hql:q<b.b7:=by
        rw[<-hz lj (zM bu)];exact (zS hq).1
       obtain ⟨u,hu,mq⟩:=fi i' lj bu q c hq;refine ⟨u,?_,mq⟩;rw[Kr,<-hu];rcases Nat.lt_or_gt_of_ne hii with o5|yh
       ·have:(i'+1)*b.b7<=i*b.b7:=zR _ o5
        rw[Nat.succ_mul]at this;rw[if_pos (by omega)]
       ·have:(i+1)*b.b7<=i'*b.b7:=zR _ yh
        rw[Nat.succ_mul]at this;rw[if_neg (by omega),if_neg (by omega)])
     (m.w.setRow g df) (Aig hm hB df) (by simp) (λ k hk=>setRow_other _ _ _ _ hk) (setRow_heap _ _ _ _ _ _ hh)
    intro K Q hK;refine Ax6 (w':=m.w.setRow g df) ?_ (hK undef ⟨m.ν,_,m.w.setRow g df⟩ rfl k1 k2 Al6);have AEK:(a.eval v).cells.size=inf.size:=by rw[di,<-hn,<-hlen];simp
    simp only[execOp,o9,iv,Instr.storeAt,storeVar,Instr.sureAddr,Sem.run_bind,Sem.run_pure,Result.andThen_ok,sizeOf,typeInfo,run_program,hi];rw[if_neg (by simpa using AEK)];simp only[Sem.run_bind,Sem.run_pure,Result.andThen_ok,Fu]
   ·cases o4
theorem Asi (hm:GR B S w0 m) (hs:I0 B S m ρ a.eval) {s b7 bytes:Nat} {zero:List AV} {l' c':C4} (h:FW P num o.op (.mk s b7 bytes zero l' c')=true) {kl kc:IntKind} {l c:Int} (hl:ρ l' = .int kl l) (hc:ρ c' = .int kc c) (h0:0<=l) (su:l<=c) (hb:c*bytes<=NR) (h63:c<=9223372036854775807) (hz:zero.length=b7) :
  I9 B S w0 P o a m (.new s ⟨b7,List.replicate l.toNat zero⟩ (λ t => .row s t b7 0 l.toNat)):=by
 obtain ⟨ty,lx,cx,e,inf,z,o9,h1,h2,hu,hi,di,Ej,jm,ri,u5⟩:=Ava h;have el:=YN (hl ▸ hs lx l' h1);have ec:=YN (hc ▸ hs cx c' h2);have ag:CL B S m zero z.cells.toList:=wZ ri;have hzs:z.cells.size=b7:=by rw[<-hz,ag.1];simp
 refine Ajc hm s b7 l.toNat c.toNat _ (madeCells z.cells (c.toNat*inf.size)) e (Nat.pos_of_ne_zero u5) (by omega) (by rw[size_madeCells,di];exact Nat.le_refl _) (λ x hx=>by rw[(List.mem_replicate.1 hx).2,hz]) (λ i cs bu j c1 hj => ?_) ?_
 ·rw[List.getElem?_replicate]at bu
  split at bu
  ·rename_i qg
   obtain rfl:zero=cs:=by simpa using bu
   obtain ⟨u,ux,mq⟩:=wK ag hj;refine ⟨u,?_,mq⟩;have my:j<b7:=by rw[<-hz];exact (zS hj).1
   have o5:i*b7+j<c.toNat*inf.size:=by
    rw[di];have h3:(i+1)*b7<=c.toNat*b7:=zR _ (by omega);rw[Nat.succ_mul]at h3;omega
   have AEo:(i*b7+j)%z.cells.size=j:=by rw[hzs,Nat.add_comm,Nat.add_mul_mod_self_right,Nat.mod_eq_of_lt my]
   have Dv:z.cells[j]? = some u:=by simpa using ux
   have hjs:j<z.cells.size:=(Array.getElem?_eq_some_iff.1 Dv).1;have yu:z.cells[j]=u:=(Array.getElem?_eq_some_iff.1 Dv).2;simp [madeCells,o5,AEo,hjs,yu]
  ·cases bu
 ·have:=run_make (P:=P) m.w ty e inf z hu hi jm kl kc l c h0 su (by rw[Ej,Int.mul_comm];simp only[NR]at hb;omega) h63
  simp only[execOp,o9,el,ec,Sem.run_bind,this,Result.andThen_ok,Sem.run_pure]
theorem Ar7 (hm:GR B S w0 m) (hs:I0 B S m ρ a.eval) {x':C4} {i:Nat} (h:FW P num o.op (.ext x' i)=true) {vs:List AV} {v:AV} (hx:ρ x' = .j5 vs) (hv:vs[i]? = some v):I9 B S w0 P o a m (.val v):=by
 obtain ⟨x,o9,h1⟩:=Au6 h;obtain ⟨us,iv,hl,hc⟩:=Ad9 (hx ▸ hs x x' h1);have o5:i<us.length:=by rw[<-hl];exact (zS hv).1
 refine MH hm (u:=us[i]) ?_ (.ca (hc i v us[i] hv (zE o5)));simp [execOp,o9,iv,Instr.extract,o5]
theorem Ash (hm:GR B S w0 m) (hs:I0 B S m ρ a.eval) {x':C4} (h:FW P num o.op (.len x')=true) {n:Nat} (hx:qF (ρ x')=some n):I9 B S w0 P o a m (.val (.int .i64 n)):=by
 obtain ⟨x,t,e,o9,h1,hu⟩:=Au9 h;have du:=hs x x' h1;obtain ⟨ad,cap,iv⟩ : ∃ ad cap,a.eval x = .slice ad n cap:=by
  generalize ρ x'=av at *;cases av with
  | sl l es =>
   have hr:=AbL du;simp only[qF,Option.some.injEq]at hx;subst hx;generalize a.eval x=v at *;cases hr with
   | rm=>exact ⟨_,_,rfl⟩
   | sl=>exact ⟨_,_,rfl⟩
  | row s t z off len =>
   obtain ⟨ad,cap,hv,_⟩:=wV du;simp only[qF,Option.some.injEq]at hx;subst hx;exact ⟨ad,cap,hv⟩
  | nil =>
   simp only[qF,Option.some.injEq]at hx;subst hx;exact ⟨_,_,wO du⟩
  | _=>simp [qF]at hx
 refine MH hm (u := .int .i64 n) ?_ (sD _ _);simp [execOp,o9,resolve,invoke,builtin,iv,Builtin.len_,run_underlying hu,goInt]
theorem tU (hs:I0 B S m ρ a.eval) : ∀ {xs:List Operand} {ys:List C4},LY xs ys=true->xs.length=ys.length /\ ∀ (j:Nat) (x:Operand) (y:C4),xs[j]? = some x->ys[j]? = some y->CV B S m (ρ y) (a.eval x)
 | [],[],_=>⟨rfl,λ j x y h=>by simp at h⟩
 | x::r,y::l,h=>by
  simp only[LY,Bool.and_eq_true]at h;obtain ⟨ih1,ue⟩:=tU hs h.2;refine ⟨by simp [ih1],λ j x' y' hx hy => ?_⟩;cases j with
  | zero=>simp at hx hy;subst hx hy;exact hs _ _ h.1
  | succ j=>exact ue j x' y' (by simpa using hx) (by simpa using hy)
 | [],_::_,h=>by simp [LY]at h
 | _::_,[],h=>by simp [LY]at h
theorem Anb (mx:Bool) (hs:I0 B S m ρ a.eval) (w:World) : ∀ (xs:List Operand) (ys:List C4) (v:AV) (u:Value) (r:AV),LY xs ys=true->CV B S m v u->cN mx v (ys.map ρ)=some r->(∃ k n,v = .int k n) -> ∃ k n,r = .int k n /\
  ((xs.map a.eval).foldlM (if mx then Builtin.max2 else Builtin.min2) u).run P w = .ok (.int k n) w
 | [],[],v,u,r,_,hc,hm,⟨k,n,hv⟩=>by
  simp only[List.map_nil,cN,Option.some.injEq]at hm;subst hm hv;obtain rfl:=YN hc;exact ⟨k,n,rfl,by simp⟩
 | x::xr,y::yr,v,u,r,he,hc,hm,⟨k,n,hv⟩=>by
  simp only[LY,Bool.and_eq_true]at he;simp only[List.map_cons,cN]at hm;have hx:=hs x y he.1;subst hv;obtain rfl:=YN hc;cases hy:ρ y with
  | int k' n' =>
   rw[hy]at hx hm;have hxe:=YN hx;simp only[qK]at hm;obtain ⟨k2,n2,rfl,h2⟩:=Anb mx hs w xr yr _ (.int k (if mx then (if n'>n then n' else n) else (if n'<n then n' else n))) r he.2 (sD _ _) hm ⟨_,_,rfl⟩;refine ⟨k2,n2,rfl,?_⟩;simp only[List.map_cons,List.foldlM_cons,Sem.run_bind,hxe];cases mx
   ·simpa [Builtin.min2] using h2
   ·simpa [Builtin.max2] using h2
  | _=>rw[hy]at hm;simp [qK]at hm
 | [],_::_,_,_,_,he,_,_,_=>by simp [LY]at he
 | _::_,[],_,_,_,he,_,_,_=>by simp [LY]at he
theorem Ask (hm:GR B S w0 m) (hs:I0 B S m ρ a.eval) {mx:Bool} {y9:List C4} (h:FW P num o.op (.mm mx y9)=true) {v r:AV} {l:List AV} (hx:y9.map ρ=v::l) (hv:cN mx v l=some r) (hi : ∃ k n,v = .int k n):I9 B S w0 P o a m (.val r):=by
 obtain ⟨xs,ts,o9,he⟩:=Aln h;cases y9 with
 | nil=>simp at hx
 | cons y yr =>
  simp only[List.map_cons,List.cons.injEq]at hx;obtain ⟨rfl,rfl⟩:=hx;obtain ⟨xl⟩:=xs;cases xl with
  | nil=>simp [LY]at he
  | cons x xr =>
   simp only[LY,Bool.and_eq_true]at he;obtain ⟨k,n,rfl,cp⟩:=Anb (P:=P) mx hs m.w xr yr (ρ y) (a.eval x) r he.2 (hs x y he.1) hv hi;refine MH hm (u := .int k n) ?_ (sD _ _);cases mx
   ·simp only[execOp,o9,resolve,invoke,builtin,Builtin.min_,Sem.run_bind,Sem.run_pure,Result.andThen_ok]at cp ⊢
    simp at cp ⊢;rw[cp];rfl
   ·simp only[execOp,o9,resolve,invoke,builtin,Builtin.max_,Sem.run_bind,Sem.run_pure,Result.andThen_ok]at cp ⊢
    simp at cp ⊢;rw[cp];rfl
end
end Go.c9
