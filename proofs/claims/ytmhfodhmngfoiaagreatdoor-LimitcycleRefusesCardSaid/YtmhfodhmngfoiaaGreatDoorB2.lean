/-
  How memory turns: each step of the abstract machine's memory, and that what is said stays said.
-/
import Derived.Test.YtmhfodhmngfoiaaGreatDoorB1
import Derived.Laws.StructEq
import Derived.ChangeKeysEq
import Derived.Laws.Slices
import Derived.Sort.Grow
import Derived.Sort.Statements
import Derived.StringKeys
import Derived.Orders
set_option linter.unusedSimpArgs false
set_option linter.unusedVariables false
set_option linter.unnecessarySimpa false
open Array renaming getElem?_eq_some_iff->xa,getElem?_toList->Hb,getElem?_modify->Gb,length_toList->Bb,foldl_toList->uc,toList_map->pc,getD->Hc,getElem?_append_left->gd,getElem?_eq_getElem->cd,size_append->te,range->De
open Bool renaming and_eq_true->ya,noConfusion->ta,false_eq_true->Ga,or_eq_true->Mb,not_eq_true'->Kb,true_eq_false->ue
open List renaming eq_nil_of_length_eq_zero->ma,getElem?_map->ja,getElem?_take->ea,getElem?_drop->Qa,getElem?_append_left->Na,mem_append->Ka,getElem?_append_right->Ja,map_cons->Da,finRange->xb,mapM_cons->ub,length_take->ib,getElem_mem->eb,map_congr_left->Ob,length_map->Nb,mem_map->Lb,mem_flatMap->Fb,mem_of_mem_take->Cb,pairwise_iff_getElem->sc,length_cons->Qc,all_eq_true->Nc,getElem_of_mem->Lc,getElem?_range->Kc,mem_cons->Jc,append_assoc->Fc,length_drop->Cc,getElem!_eq_getElem?_getD->yd,mem_zipIdx_iff_getElem?->xd,foldl_cons->td,range->dd,drop_eq_getElem_cons->Md,map_map->Kd,getElem?_toArray->Gd,mem_of_mem_drop->Ed,mem_cons_of_mem->Dd,getElem?_of_mem->Cd,getElem?_append->ze,mem_cons_self->ye,length_append->ve,size_toArray->je,getD->Me,cons.injEq->Ke,Nodup->Be
open Nat renaming le_refl->ga,add_mul->Ea,zero_add->Ca,succ_mul->zb,eq_zero_or_pos->rb,le_trans->db,lt_or_ge->Jb,mul_comm->xc,pos_of_ne_zero->tc,div_lt_of_lt_mul->Mc,add_zero->Ec,div_add_mod->kd,add_mul_mod_self_right->Od,add_assoc->Ld,zero_mul->Jd,add_comm->Hd,mod_lt->re,lt_or_gt_of_ne->me,lt_trichotomy->Qe,mod_eq_of_lt->Le,zero_le->Ce,blt_eq->uf
open Option renaming some.injEq->za,map_eq_some_iff->sa,some.inj->na,isSome_iff_exists->Ma,map_some->Ia,bind_eq_bind->qb,pure_def->Eb,map_none->Db,getD_some->Gc
open Prod renaming fst->Ge,mk.injEq->Ee
namespace Go.e9
open Go.RowKit
section
variable {B:Nat} {S:Nat->Prop} {w0:GG}
def live(m:M)(s t:Nat):Prop := ∃b,m.own.get s t=some b
theorem BJ.my{m:M}(h:BJ B S w0 m){s t:Nat}{b:DI}(hb:m.own.get s t=some b)(hs:s<EP):tK B S m s t b:=(h.c9 s t b hb).1 hs
theorem BJ.ge{m:M}(h:BJ B S w0 m){s t g:Nat}(hl:live m s t)(hg:m.ν s t=some g):B<=g/\∃x,m.w.heap[g]?=some x:=by
 obtain⟨b,hb⟩:=hl;rcases Jb s EP with hs|hs
 ·obtain⟨_,h2⟩:=h.my hb hs
  rw[hg]at h2;obtain⟨h3,arr,e,h4,_⟩:=h2;exact⟨h3,_,h4⟩
 ·obtain⟨g',es,clock,h1,h2,h3,_⟩:=(h.c9 s t b hb).2 hs
  obtain rfl:g'=g:=na (h1.symm.trans hg);exact⟨h2,_,h3⟩
theorem cU.ext{m m':M}{s t:Nat}{b:DI}(h:cU B S m s t b)(he:DB B S m m')(hν:m'.ν s t=m.ν s t)(hk:∀g x,m.ν s t=some g->m.w.heap[g]?=some x->m'.w.heap[g]?=some x):cU B S m' s t b:=by
 refine⟨λhs=>?_,λhs=>?_⟩
 ·obtain⟨h1,h2⟩:=h.1 hs
  refine⟨h1,?_⟩;rw[hν];cases hv:m.ν s t with
  |none=>rw[hv]at h2;exact h2
  |some g=>
   rw[hv]at h2;obtain⟨h3,ar,e',h4,h5⟩:=h2;refine⟨h3,ar,e',hk g _ hv h4,λi cs hi j c hj=>?_⟩;obtain⟨u,hu,ck⟩:=h5 i cs hi j c hj;exact⟨u,hu,he.cc ck⟩
 ·obtain⟨g,es,clock,h1,h2,h3,h4⟩:=h.2 hs
  exact⟨g,es,clock,hν.trans h1,h2,hk g _ h1 h3,h4⟩
theorem OS{m m':M}(hm:BJ B S w0 m)(hs:m.w.heap.size<=m'.w.heap.size)
  (hk:∀b,b<m.w.heap.size->(∀s t,live m s t->m.ν s t≠some b)->m'.w.heap[b]?=m.w.heap[b]?) (Co:∀s,m.own.j7 s<=m'.own.j7 s)
  (Ht:∀s t b',t<m.own.j7 s->m'.own.get s t=some b'->∃b,m.own.get s t=some b/\b'.a7=b.a7/\m'.ν s t=m.ν s t /\
   ∀g arr e,m.ν s t=some g->m.w.heap[g]?=some (.cells arr e (0,0))->∃af,m'.w.heap[g]?=some (.cells af e (0,0))/\af.size=arr.size)
  (eh:∀s t g,live m' s t->m'.ν s t=some g->g<m.w.heap.size->∃s0 t0,live m s0 t0/\m.ν s0 t0=some g):DB B S m m':=by
 have fg:∀b,safe B S m true b->∀s t,live m s t->m.ν s t≠some b:=by
  intro b hb s t hl hg;have iw:=(hm.ge hl hg).1;rcases hb with⟨_,h⟩|⟨_,h⟩|⟨_,h⟩
  ·omega
  ·obtain⟨b',j9⟩:=hl
   exact h s t (by simp[j9]) hg
  ·omega
 refine⟨hs,λb hb wx=>hk b hb (fg b wx),λl b hb wx=>?_,Co,Ht⟩;rcases wx with h|⟨h,hn⟩|h
 ·exact .inl h
 ·refine .inr (.inl ⟨h,λs t hl hg=>?_⟩)
  obtain⟨b',j9⟩:=Ma.1 hl;obtain⟨s0,t0,⟨b0,jn⟩,Ct⟩:=eh s t b ⟨b',j9⟩ hg hb;exact hn s0 t0 (by simp[jn]) Ct
 ·exact .inr (.inr h)
theorem grow{m:M}(hm:BJ B S w0 m){w':World}(hb:D7 w0.D m.w.heap.size m.w w') :
  BJ B S w0 ⟨m.ν,m.own,w'⟩/\DB B S m ⟨m.ν,m.own,w'⟩:=by
 have he:DB B S m ⟨m.ν,m.own,w'⟩:=by
  refine OS hm hb.size (λb j9 _=>hb.block b j9) (λ_=>ga _) (λs t b' _ j9=>⟨b',j9,rfl,rfl,λg arr e hg ha=>⟨arr,?_,rfl⟩⟩) (λs t g hl hg _=>⟨s,t,hl,hg⟩);have:g<m.w.heap.size:=(xa.1 ha).1
  exact(hb.block g this).trans ha
 refine⟨⟨hm.below.trans (hb.mono hm.size),db hm.size hb.size,hm.fresh,λs t b hg=>?_,hm.inj⟩,he⟩;exact(hm.c9 s t b hg).ext he rfl λg x _ hx=>(hb.block g (xa.1 hx).1).trans hx
theorem GA(o:Own)(s s' t':Nat)(b:DI):(o.put s ((o s).new b)).get s' t'=if s'=s/\t'=o.j7 s then some b else o.get s' t':=by
 unfold Own.get Own.put B5.new Own.j7;by_cases h:s'=s
 ·subst h
  by_cases h2:t'=(o s').j7<;>simp[h2]
 ·simp[h]
theorem KY(o:Own)(s s':Nat)(b:DI):(o.put s ((o s).new b)).j7 s'=if s'=s then o.j7 s+1 else o.j7 s':=by
 unfold Own.j7 Own.put B5.new;by_cases h:s'=s<;>simp[h]
theorem L4(o:Own)(s t s' t':Nat)(b:Option DI):(o.put s ((o s).u5 t b)).get s' t'=if s'=s/\t'=t then b else o.get s' t':=by
 unfold Own.get Own.put B5.u5;by_cases h:s'=s
 ·subst h
  by_cases h2:t'=t<;>simp[h2]
 ·simp[h]
theorem X2(o:Own)(s t s':Nat)(b:Option DI):(o.put s ((o s).u5 t b)).j7 s'=o.j7 s':=by
 unfold Own.j7 Own.put B5.u5;by_cases h:s'=s<;>simp[h]
def k6(m:M)(s:Nat)(g:Option Nat):Nat->Nat->Option Nat:=λs' t'=>if s'=s/\t'=m.own.j7 s then g else m.ν s' t'
theorem bK{m:M}(hm:BJ B S w0 m)(s:Nat):¬live m s (m.own.j7 s):=λ⟨b,hb⟩=>by
 rw[hm.fresh s _ (ga _)]at hb;cases hb
theorem kZ{m:M}(hm:BJ B S w0 m)(s:Nat)(x6:s<EP)(b:DI)(arr:Array Value)(e:TypeId)(hz:∀x∈b.es,x.length=b.a7)
  (hc:∀i cs,b.es[i]?=some cs->∀j c,cs[j]?=some c->∃u,arr[i*b.a7+j]?=some u/\CC B S m c u) :
  BJ B S w0 ⟨k6 m s (some m.w.heap.size),m.own.put s ((m.own s).new b),m.w.alloc (.cells arr e)⟩ /\
  DB B S m ⟨k6 m s (some m.w.heap.size),m.own.put s ((m.own s).new b),m.w.alloc (.cells arr e)⟩:=by
 have x8:(m.w.alloc (.cells arr e)).heap.size=m.w.heap.size+1:=Z'
 have hν:∀s' t',live m s' t'->k6 m s (some m.w.heap.size) s' t'=m.ν s' t':=λs' t' hl=>by
  unfold k6;rw[if_neg];rintro⟨rfl,rfl⟩
  exact bK hm _ hl
 have he:DB B S m ⟨k6 m s (some m.w.heap.size),m.own.put s ((m.own s).new b),m.w.alloc (.cells arr e)⟩:=by
  refine OS hm (by rw[x8];omega) (λk hk _=>Below.heap_alloc _ _ _ hk) (λs'=>?_) (λs' t' b' ht j9=>?_) (λs' t' g hl hg k7=>?_)
  ·rw[KY];split
   ·rename_i h;subst h;omega
   ·exact ga _
  ·rw[GA]at j9
   rw[if_neg (by rintro⟨rfl,rfl⟩;omega)]at j9;refine⟨b',j9,rfl,hν s' t' ⟨b',j9⟩,λg ar e' hg ha=>⟨ar,?_,rfl⟩⟩;exact(Below.heap_alloc _ _ _ (xa.1 ha).1).trans ha
  ·obtain⟨b',j9⟩:=hl
   have w7:=j9;rw[GA]at j9;by_cases h:s'=s/\t'=m.own.j7 s
   ·simp only[k6,if_pos h,za]at hg
    omega
   ·rw[if_neg h]at j9
    exact⟨s',t',⟨b',j9⟩,by rw[<-hν s' t' ⟨b',j9⟩];exact hg⟩
 refine⟨⟨hm.below.alloc hm.size _,by rw[x8];have:=hm.size;omega,λs' t' ht=>?_,λs' t' b' j9=>?_,λs1 t1 s2 t2 b1 b2 g h1 h2 g1 g2=>?_⟩,he⟩
 ·rw[KY]at ht
  rw[GA,if_neg]
  ·refine hm.fresh s' t' ?_
   split at ht
   ·rename_i h;subst h;omega
   ·exact ht
  ·rintro⟨rfl,rfl⟩
   simp at ht;omega
 ·rw[GA]at j9
  by_cases h:s'=s/\t'=m.own.j7 s
  ·rw[if_pos h]at j9
   obtain rfl:b=b':=by simpa using j9
   refine⟨λ_=>⟨hz,?_⟩,λiw=>by have:=h.1;omega⟩;show match k6 m s (some m.w.heap.size) s' t' with|none=>_|some g=>_
   rw[show k6 m s (some m.w.heap.size) s' t'=some m.w.heap.size by simp[k6,h]];refine⟨hm.size,arr,e,heap_alloc_new _ _,λi cs hi j c hj=>?_⟩;obtain⟨u,hu,ck⟩:=hc i cs hi j c hj;exact⟨u,hu,he.cc ck⟩
  ·rw[if_neg h]at j9
   exact(hm.c9 s' t' b' j9).ext he (hν s' t' ⟨b',j9⟩) λg x _ hx=>(Below.heap_alloc _ _ _ (xa.1 hx).1).trans hx
 ·rw[GA]at h1 h2
  have lt:∀s' t' b',m.own.get s' t'=some b'->k6 m s (some m.w.heap.size) s' t'=some g->g<m.w.heap.size:=λs' t' b' hb hg=>by
   rw[hν s' t' ⟨b',hb⟩]at hg;obtain⟨_,x,h4⟩:=hm.ge ⟨b',hb⟩ hg;exact(xa.1 h4).1
  have at_:∀s' t',s'=s/\t'=m.own.j7 s->k6 m s (some m.w.heap.size) s' t'=some g->g=m.w.heap.size:=λs' t' h hg=>by
   simp only[k6,if_pos h,za]at hg;exact hg.symm
  by_cases p1:s1=s/\t1=m.own.j7 s<;>by_cases p2:s2=s/\t2=m.own.j7 s
  ·exact⟨p1.1.trans p2.1.symm,p1.2.trans p2.2.symm⟩
  ·rw[if_neg p2]at h2
   have:=lt s2 t2 b2 h2 g2
   have:=at_ s1 t1 p1 g1
   omega
  ·rw[if_neg p1]at h1
   have:=lt s1 t1 b1 h1 g1
   have:=at_ s2 t2 p2 g2
   omega
  ·rw[if_neg p1]at h1
   rw[if_neg p2]at h2;exact hm.inj s1 t1 s2 t2 b1 b2 g h1 h2 (by rw[<-hν s1 t1 ⟨b1,h1⟩];exact g1) (by rw[<-hν s2 t2 ⟨b2,h2⟩];exact g2)
theorem AdZ{m:M}(hm:BJ B S w0 m)(s a7:Nat)(x6:s<EP) :
  BJ B S w0 ⟨k6 m s none,m.own.put s ((m.own s).new ⟨a7,[]⟩),m.w⟩/\DB B S m ⟨k6 m s none,m.own.put s ((m.own s).new ⟨a7,[]⟩),m.w⟩:=by
 have hν:∀s' t',live m s' t'->k6 m s none s' t'=m.ν s' t':=λs' t' hl=>by
  unfold k6;rw[if_neg];rintro⟨rfl,rfl⟩
  exact bK hm _ hl
 have he:DB B S m ⟨k6 m s none,m.own.put s ((m.own s).new ⟨a7,[]⟩),m.w⟩:=by
  refine OS hm (ga _) (λk hk _=>rfl) (λs'=>?_) (λs' t' b' ht j9=>?_) (λs' t' g hl hg k7=>?_)
  ·rw[KY];split
   ·rename_i h;subst h;omega
   ·exact ga _
  ·rw[GA]at j9
   rw[if_neg (by rintro⟨rfl,rfl⟩;omega)]at j9;exact⟨b',j9,rfl,hν s' t' ⟨b',j9⟩,λg ar e' hg ha=>⟨ar,ha,rfl⟩⟩
  ·obtain⟨b',j9⟩:=hl
   rw[GA]at j9;by_cases h:s'=s/\t'=m.own.j7 s
   ·simp[k6,if_pos h]at hg
   ·rw[if_neg h]at j9
    exact⟨s',t',⟨b',j9⟩,by rw[<-hν s' t' ⟨b',j9⟩];exact hg⟩
 refine⟨⟨hm.below,hm.size,λs' t' ht=>?_,λs' t' b' j9=>?_,λs1 t1 s2 t2 b1 b2 g h1 h2 g1 g2=>?_⟩,he⟩
 ·rw[KY]at ht
  rw[GA,if_neg]
  ·refine hm.fresh s' t' ?_
   split at ht
   ·rename_i h;subst h;omega
   ·exact ht
  ·rintro⟨rfl,rfl⟩
   simp at ht;omega
 ·rw[GA]at j9
  by_cases h:s'=s/\t'=m.own.j7 s
  ·rw[if_pos h]at j9
   obtain rfl:(⟨a7,[]⟩:DI)=b':=by simpa using j9
   refine⟨λ_=>⟨Z',?_⟩,λiw=>by have:=h.1;omega⟩;show match k6 m s none s' t' with|none=>_|some g=>_
   rw[show k6 m s none s' t'=none by simp[k6,h]]
  ·rw[if_neg h]at j9
   exact(hm.c9 s' t' b' j9).ext he (hν s' t' ⟨b',j9⟩) λg x _ hx=>hx
 ·rw[GA]at h1 h2
  by_cases p1:s1=s/\t1=m.own.j7 s
  ·simp[k6,if_pos p1]at g1
  ·by_cases p2:s2=s/\t2=m.own.j7 s
   ·simp[k6,if_pos p2]at g2
   ·rw[if_neg p1]at h1
    rw[if_neg p2]at h2;exact hm.inj s1 t1 s2 t2 b1 b2 g h1 h2 (by rw[<-hν s1 t1 ⟨b1,h1⟩];exact g1) (by rw[<-hν s2 t2 ⟨b2,h2⟩];exact g2)
theorem Zz{m:M}(hm:BJ B S w0 m)(s t:Nat)(x6:s<EP)(b b':DI)(hb:m.own.get s t=some b)(g:Nat)(hg:m.ν s t=some g)(arr af:Array Value)(e:TypeId)
  (ha:m.w.heap[g]?=some (.cells arr e (0,0))) (Qr:b'.a7=b.a7) (hz:∀x∈b'.es,x.length=b'.a7) (x8:af.size=arr.size)
  (hc:∀i cs,b'.es[i]?=some cs->∀j c,cs[j]?=some c->∃u,af[i*b'.a7+j]?=some u/\CC B S m c u) (w':World) (fx:D7 w0.D B w0.w w') (pj:w'.heap.size=m.w.heap.size)
  (hk:∀k,k≠g->w'.heap[k]?=m.w.heap[k]?) (Ko:w'.heap[g]?=some (.cells af e (0,0))) :
  BJ B S w0 ⟨m.ν,m.own.put s ((m.own s).u5 t (some b')),w'⟩/\DB B S m ⟨m.ν,m.own.put s ((m.own s).u5 t (some b')),w'⟩:=by
 have k7:t<m.own.j7 s:=by
  rcases Jb t (m.own.j7 s)with h|h
  ·exact h
  ·rw[hm.fresh s t h]at hb;cases hb
 have he:DB B S m ⟨m.ν,m.own.put s ((m.own s).u5 t (some b')),w'⟩:=by
  refine OS hm (by rw[pj];exact ga _) (λk jr hn=>hk k (λe=>hn s t ⟨b,hb⟩ (e▸hg))) (λs'=>by rw[X2];exact ga _) (λs' t' b2 ht w7=>?_) (λs' t' g' hl di _=>?_)
  ·rw[L4]at w7
   by_cases h:s'=s/\t'=t
   ·obtain⟨rfl,rfl⟩:=h
    rw[if_pos ⟨rfl,rfl⟩]at w7;obtain rfl:b'=b2:=by simpa using w7
    refine⟨b,hb,Qr,rfl,λg2 ar e' jo sj=>?_⟩;obtain rfl:g=g2:=by rw[hg]at jo;simpa using jo
    rw[ha]at sj;obtain⟨rfl,rfl⟩:arr=ar/\e=e':=by simpa using sj
    exact⟨af,Ko,x8⟩
   ·rw[if_neg h]at w7
    refine⟨b2,w7,rfl,rfl,λg2 ar e' jo sj=>⟨ar,?_,rfl⟩⟩;rw[<-sj];exact hk g2 (λe2=>h (by
     subst e2;exact hm.inj s' t' s t b2 b g2 w7 hb jo hg))
  ·obtain⟨b2,w7⟩:=hl
   rw[L4]at w7;by_cases h:s'=s/\t'=t
   ·obtain⟨rfl,rfl⟩:=h
    exact⟨s',t',⟨b,hb⟩,di⟩
   ·rw[if_neg h]at w7
    exact⟨s',t',⟨b2,w7⟩,di⟩
 refine⟨⟨fx,by rw[pj];exact hm.size,λs' t' ht=>?_,λs' t' b2 w7=>?_,λs1 t1 s2 t2 b1 b2 g1 h1 h2 e1 e2=>?_⟩,he⟩
 ·rw[X2]at ht
  rw[L4,if_neg (by rintro⟨rfl,rfl⟩;omega)];exact hm.fresh s' t' ht
 ·rw[L4]at w7
  by_cases h:s'=s/\t'=t
  ·obtain⟨rfl,rfl⟩:=h
   rw[if_pos ⟨rfl,rfl⟩]at w7;obtain rfl:b'=b2:=by simpa using w7
   refine⟨λ_=>⟨hz,?_⟩,λiw=>O'⟩;show match m.ν s' t' with|none=>_|some g=>_
   rw[hg];refine⟨(hm.ge ⟨b,hb⟩ hg).1,af,e,Ko,λi cs hi j c hj=>?_⟩;obtain⟨u,hu,ck⟩:=hc i cs hi j c hj;exact⟨u,hu,he.cc ck⟩
  ·rw[if_neg h]at w7
   exact(hm.c9 s' t' b2 w7).ext he rfl λg2 x hv hx=>(hk g2 (λe2=>h (by
    subst e2;exact hm.inj s' t' s t b2 b g2 w7 hb hv hg))).trans hx
 ·have old:∀s' t' b2,(m.own.put s ((m.own s).u5 t (some b'))).get s' t'=some b2->∃b3,m.own.get s' t'=some b3:=λs' t' b2 h=>by
   rw[L4]at h;by_cases h':s'=s/\t'=t
   ·obtain⟨rfl,rfl⟩:=h';exact⟨b,hb⟩
   ·rw[if_neg h']at h;exact⟨b2,h⟩
  obtain⟨c1,k1⟩:=old s1 t1 b1 h1;obtain⟨c2,k2⟩:=old s2 t2 b2 h2;exact hm.inj s1 t1 s2 t2 c1 c2 g1 k1 k2 e1 e2
theorem SN(o:Own)(s t s' t':Nat)(b:DI):(o.put s (((o s).u5 t none).new b)).get s' t'=if s'=s/\t'=o.j7 s then some b else if s'=s/\t'=t then none else o.get s' t':=by
 unfold Own.get Own.put B5.new B5.u5 Own.j7;by_cases h:s'=s
 ·subst h
  by_cases h2:t'=(o s').j7<;>by_cases h3:t'=t<;>simp[h2,h3]
 ·simp[h]
theorem eJ(o:Own)(s t s':Nat)(b:DI):(o.put s (((o s).u5 t none).new b)).j7 s'=if s'=s then o.j7 s+1 else o.j7 s':=by
 unfold Own.j7 Own.put B5.new B5.u5;by_cases h:s'=s<;>simp[h]
theorem pM{m:M}(hm:BJ B S w0 m)(s t:Nat)(x6:s<EP)(b b':DI)(hb:m.own.get s t=some b)(gy:Option Nat)(w':World)(fx:D7 w0.D B w0.w w')(x8:m.w.heap.size<=w'.heap.size)
  (hk:∀k,k<m.w.heap.size->m.ν s t≠some k->w'.heap[k]?=m.w.heap[k]?) (hz:∀x∈b'.es,x.length=b'.a7)
  (wq:gy=none->b'.es=[])
  (wz:∀g,gy=some g->B<=g/\(m.w.heap.size<=g\/m.ν s t=some g)/\∃arr e,w'.heap[g]?=some (.cells arr e (0,0)) /\
   ∀i cs,b'.es[i]?=some cs->∀j c,cs[j]?=some c->∃u,arr[i*b'.a7+j]?=some u/\CC B S m c u) :
  BJ B S w0 ⟨k6 m s gy,m.own.put s (((m.own s).u5 t none).new b'),w'⟩/\DB B S m ⟨k6 m s gy,m.own.put s (((m.own s).u5 t none).new b'),w'⟩:=by
 have k7:t<m.own.j7 s:=by
  rcases Jb t (m.own.j7 s)with h|h
  ·exact h
  ·rw[hm.fresh s t h]at hb;cases hb
 have hν:∀s' t',live m s' t'->k6 m s gy s' t'=m.ν s' t':=λs' t' hl=>by
  unfold k6;rw[if_neg];rintro⟨rfl,rfl⟩
  exact bK hm _ hl
 have he:DB B S m ⟨k6 m s gy,m.own.put s (((m.own s).u5 t none).new b'),w'⟩:=by
  refine OS hm x8 (λk jr hn=>hk k jr (hn s t ⟨b,hb⟩)) (λs'=>?_) (λs' t' b2 ht w7=>?_) (λs' t' g' hl di pd=>?_)
  ·rw[eJ];split
   ·rename_i h;subst h;omega
   ·exact ga _
  ·rw[SN]at w7
   rw[if_neg (by rintro⟨rfl,rfl⟩;omega)]at w7;by_cases h:s'=s/\t'=t
   ·rw[if_pos h]at w7;cases w7
   ·rw[if_neg h]at w7
    refine⟨b2,w7,rfl,hν s' t' ⟨b2,w7⟩,λg2 ar e' jo sj=>⟨ar,?_,rfl⟩⟩;rw[<-sj];exact hk g2 (xa.1 sj).1 (λe2=>h (hm.inj s' t' s t b2 b g2 w7 hb jo e2))
  ·obtain⟨b2,w7⟩:=hl
   rw[SN]at w7;by_cases h0:s'=s/\t'=m.own.j7 s
   ·simp only[k6,if_pos h0]at di
    obtain⟨_,h2,_⟩:=wz g' di;rcases h2 with h2|h2
    ·omega
    ·exact⟨s,t,⟨b,hb⟩,h2⟩
   ·rw[if_neg h0]at w7
    by_cases h:s'=s/\t'=t
    ·rw[if_pos h]at w7;cases w7
    ·rw[if_neg h]at w7
     exact⟨s',t',⟨b2,w7⟩,by rw[<-hν s' t' ⟨b2,w7⟩];exact di⟩
 refine⟨⟨fx,db hm.size x8,λs' t' ht=>?_,λs' t' b2 w7=>?_,λs1 t1 s2 t2 b1 b2 g1 h1 h2 e1 e2=>?_⟩,he⟩
 ·rw[eJ]at ht
  have ny:m.own.j7 s'<=t'/\¬(s'=s/\t'=m.own.j7 s):=by
   by_cases h:s'=s
   ·subst h
    simp at ht;exact⟨O',O'⟩
   ·simp[h]at ht
    exact⟨ht,λh'=>h h'.1⟩
  rw[SN,if_neg ny.2];split
  ·rfl
  ·exact hm.fresh s' t' ny.1
 ·rw[SN]at w7
  by_cases h0:s'=s/\t'=m.own.j7 s
  ·rw[if_pos h0]at w7
   obtain rfl:b'=b2:=by simpa using w7
   refine⟨λ_=>⟨hz,?_⟩,λiw=>by have:=h0.1;omega⟩;show match k6 m s gy s' t' with|none=>_|some g=>_
   rw[show k6 m s gy s' t'=gy by simp[k6,h0]];cases gy with
   |none=>exact wq rfl
   |some g=>
    obtain⟨h1,_,arr,e,h4,h5⟩:=wz g rfl;refine⟨h1,arr,e,h4,λi cs hi j c hj=>?_⟩;obtain⟨u,hu,ck⟩:=h5 i cs hi j c hj;exact⟨u,hu,he.cc ck⟩
  ·rw[if_neg h0]at w7
   by_cases h:s'=s/\t'=t
   ·rw[if_pos h]at w7;cases w7
   ·rw[if_neg h]at w7
    exact(hm.c9 s' t' b2 w7).ext he (hν s' t' ⟨b2,w7⟩) λg2 x hv hx=>(hk g2 (xa.1 hx).1 (λe2=>h (hm.inj s' t' s t b2 b g2 w7 hb hv e2))).trans hx
 ·rw[SN]at h1 h2
  have old:∀s' t' b2,(if s'=s/\t'=t then none else m.own.get s' t')=some b2->m.own.get s' t'=some b2/\¬(s'=s/\t'=t):=λs' t' b2 h=>by
   by_cases h':s'=s/\t'=t
   ·rw[if_pos h']at h;cases h
   ·rw[if_neg h']at h;exact⟨h,h'⟩
  have oc:∀s' t' b2,m.own.get s' t'=some b2->¬(s'=s/\t'=t)->k6 m s gy s' t'=some g1->gy=some g1->False:=λs' t' b2 w7 q6 e1 e2=>by
   rw[hν s' t' ⟨b2,w7⟩]at e1;obtain⟨_,h2,_⟩:=wz g1 e2;obtain⟨_,x,h4⟩:=hm.ge ⟨b2,w7⟩ e1;have:=(xa.1 h4).1
   rcases h2 with h2|h2
   ·omega
   ·exact q6 (hm.inj s' t' s t b2 b g1 w7 hb e1 h2)
  have at_:∀s' t',s'=s/\t'=m.own.j7 s->k6 m s gy s' t'=some g1->gy=some g1:=λs' t' h hg=>by simpa [k6,if_pos h]using hg
  by_cases p1:s1=s/\t1=m.own.j7 s<;>by_cases p2:s2=s/\t2=m.own.j7 s
  ·exact⟨p1.1.trans p2.1.symm,p1.2.trans p2.2.symm⟩
  ·rw[if_neg p2]at h2
   obtain⟨k2,n2⟩:=old s2 t2 b2 h2;exact(oc s2 t2 b2 k2 n2 e2 (at_ s1 t1 p1 e1)).elim
  ·rw[if_neg p1]at h1
   obtain⟨k1,n1⟩:=old s1 t1 b1 h1;exact(oc s1 t1 b1 k1 n1 e1 (at_ s2 t2 p2 e2)).elim
  ·rw[if_neg p1]at h1
   rw[if_neg p2]at h2;obtain⟨k1,n1⟩:=old s1 t1 b1 h1;obtain⟨k2,n2⟩:=old s2 t2 b2 h2;exact hm.inj s1 t1 s2 t2 b1 b2 g1 k1 k2 (by rw[<-hν s1 t1 ⟨b1,k1⟩];exact e1) (by rw[<-hν s2 t2 ⟨b2,k2⟩];exact e2)
theorem Rx(o:Own)(l:u_)(s t:Nat):(o.drop l).get s t=if s∈l then none else o.get s t:=by
 induction l with
 |nil=>simp[Own.drop]
 |cons x r ih=>
  unfold Own.get at*;by_cases h:s=x
  ·subst h;simp[Own.drop,Own.put]
  ·simp only[Own.drop,Own.put,if_neg h,Jc]
   rw[ih];by_cases h2:s∈r<;>simp[h,h2]
theorem vV(o:Own)(l:u_)(s:Nat):(o.drop l).j7 s=o.j7 s:=by
 induction l with
 |nil=>simp[Own.drop]
 |cons x r ih=>
  unfold Own.j7 at*;by_cases h:s=x
  ·subst h;simp[Own.drop,Own.put]
  ·simp[Own.drop,Own.put,h,ih]
theorem Aia{m:M}(hm:BJ B S w0 m)(l:u_):BJ B S w0 ⟨m.ν,m.own.drop l,m.w⟩/\DB B S m ⟨m.ν,m.own.drop l,m.w⟩:=by
 have old:∀s t b,(m.own.drop l).get s t=some b->m.own.get s t=some b:=λs t b h=>by
  rw[Rx]at h;split at h
  ·cases h
  ·exact h
 have he:DB B S m ⟨m.ν,m.own.drop l,m.w⟩:=by
  refine OS hm (ga _) (λ_ _ _=>rfl) (λs=>by rw[vV];exact ga _) (λs t b' _ j9=>⟨b',old s t b' j9,rfl,rfl,λ_ ar _ _ ha=>⟨ar,ha,rfl⟩⟩) (λs t g hl hg _=>?_);obtain⟨b,hb⟩:=hl;exact⟨s,t,⟨b,old s t b hb⟩,hg⟩
 refine⟨⟨hm.below,hm.size,λs t ht=>?_,λs t b hb=>?_,λs1 t1 s2 t2 b1 b2 g h1 h2=>hm.inj s1 t1 s2 t2 b1 b2 g (old _ _ _ h1) (old _ _ _ h2)⟩,he⟩
 ·rw[vV]at ht
  rw[Rx];split
  ·rfl
  ·exact hm.fresh s t ht
 ·exact(hm.c9 s t b (old s t b hb)).ext he rfl λg x _ hx=>hx
end
end Go.e9
namespace Go.e9
section
variable {P:Program} {num:Nat->Nat} {op:Op}
theorem AkY{y:AL}(h:A9 P num op (.q9 y)=true):∃x,(op = .move x\/op = .assign x)/\BW x y=true:=by
 cases op with
 |move x=>exact⟨x,.inl rfl,h⟩
 |assign x=>exact⟨x,.inr rfl,h⟩
 |_=>exact ta h
theorem Ak5{s z:Nat}(h:A9 P num op (.ak s z)=true):(op = .move (.const (.slice none 0 0))\/op = .assign (.const (.slice none 0 0)))/\z≠0:=by
 simp only[A9,ya,bne_iff_ne]at h;refine⟨?_,h.1⟩;have h2:=h.2;split at h2<;>simp_all
theorem Ak0{c' a' b':AL}(h:A9 P num op (.pick c' a' b')=true):∃c a b,op = .pick c a b/\BW c c'=true/\BW a a'=true/\BW b b'=true:=by
 cases op with
 |pick c a b=>simp only[A9,ya]at h;exact⟨c,a,b,rfl,h.1.1,h.1.2,h.2⟩
 |_=>exact ta h
theorem AkJ{f:BinOp}{x' y':AL}(h:A9 P num op (.bin f x' y')=true):∃t x y u,op = .binOp f t x y u/\BW x x'=true/\BW y y'=true:=by
 cases op with
 |binOp f' t x y u=>
  simp only[A9,ya,beq_iff_eq]at h;exact⟨t,x,y,u,by rw[h.1.1],h.1.2,h.2⟩
 |_=>exact ta h
theorem AkI{ne:Bool}{x' y':AL}(h:A9 P num op (.beq ne x' y')=true):∃t x y u,op = .binOp (if ne then .neq else .eql) t x y u/\P.underlying t=some .bool/\BW x x'=true/\BW y y'=true:=by
 cases op with
 |binOp f' t x y u=>
  simp only[A9,ya]at h;obtain⟨⟨⟨h1,h2⟩,h3⟩,h4⟩:=h;refine⟨t,x,y,u,?_,?_,h3,h4⟩
  ·cases ne<;>simp_all
  ·split at h2<;>simp_all
 |_=>exact ta h
theorem Ak4{f:UnOp}{x':AL}(h:A9 P num op (.un f x')=true):∃t x,op = .unOp f t x/\BW x x'=true:=by
 cases op with
 |unOp f' t x=>
  simp only[A9,ya,beq_iff_eq]at h;exact⟨t,x,by rw[h.1],h.2⟩
 |_=>exact ta h
theorem AkR{k:IntKind}{x':AL}(h:A9 P num op (.conv k x')=true):∃s d x ds,op = .convert s d x/\P.underlying s=some ds/\P.underlying d=some (.int k)/\BW x x'=true:=by
 cases op with
 |convert s d x=>
  simp only[A9,ya]at h;obtain⟨⟨h1,h2⟩,h3⟩:=h;obtain⟨ds,uv⟩:=Ma.1 h1;refine⟨s,d,x,ds,rfl,uv,?_,h3⟩;split at h2<;>simp_all
 |_=>exact ta h
theorem AkK{s:Nat}{x':AL}(h:A9 P num op (.box s x')=true):∃t x,op = .box t x/\BW x x'=true:=by
 cases op with
 |box t x=>exact⟨t,x,rfl,h⟩
 |_=>exact ta h
theorem AkH{s:Nat}{z:w_}(h:A9 P num op (.alloc s z)=true):∃t,op = .alloc t/\XF P t z=true:=by
 cases op with
 |alloc t=>exact⟨t,rfl,h⟩
 |_=>exact ta h
theorem AkM{z:w_}{dc:List (Nat×Nat×AL)}(h:A9 P num op (.build z dc)=true):∃t ps,op = .build t ps/\XF P t z=true/\lG P t ps.toList dc=true:=by
 cases op with
 |build t ps=>simp only[A9,ya]at h;exact⟨t,ps,rfl,h.1,h.2⟩
 |_=>exact ta h
theorem W1{t:TypeId}{f:TypeId->Bool}(h:KP P t f=true):∃e,P.underlying t=some (.slice e)/\f e=true:=by
 unfold KP at h;split at h
 ·rename_i e he;exact⟨e,he,h⟩
 ·cases h
theorem QG{t:TypeId}{n:Nat}(h:KO P t n=true):∃i,P.info? t=some i/\i.size=n:=by
 unfold KO at h;split at h
 ·rename_i i hi;exact⟨i,hi,by simpa using h⟩
 ·cases h
theorem vB{t:TypeId}{n:Nat}(h:XU P t n=true):∃i,P.info? t=some i/\i.bytes=n:=by
 unfold XU at h;split at h
 ·rename_i i hi;exact⟨i,hi,by simpa using h⟩
 ·cases h
theorem tB{t:TypeId}{l:w_}(h:XF P t l=true):∃i z,P.info? t=some i/\i.zero=some z/\Q0 z.cells.toList l=true:=by
 unfold XF at h;split at h
 ·rename_i i hi
  split at h
  ·rename_i z hz;exact⟨i,z,hi,hz,h⟩
  ·cases h
 ·cases h
theorem kX{t:TypeId}{b:Bool}(h:(XR P t == some b)=true):∀w,(isAgg t).run P w = .ok b w:=by
 intro w;have h':XR P t=some b:=by simpa using h
 unfold XR at h';unfold isAgg;cases hu:P.underlying t with
 |none=>rw[hu]at h';cases h'
 |some d=>
  rw[hu]at h';rw[Sem.run_bind,run_underlying hu];cases d<;>simp_all<;>rfl
theorem Aef{e:TypeId}{n:Nat}(h:(match P.info? e with|some i=>(match i.zero with|some z=>z.cells.size == n|none=>false)|none=>false)=true):∃i z,P.info? e=some i/\i.zero=some z/\z.cells.size=n:=by
 split at h
 ·rename_i i hi
  split at h
  ·rename_i z hz;exact⟨i,z,hi,hz,by simpa using h⟩
  ·cases h
 ·cases h
theorem AkL{s a7:Nat}{dc:List AL}(h:A9 P num op (.b8 s a7 dc)=true):∃t n ps e i,op = .buildSlice t n ps/\P.underlying t=some (.slice e)/\P.info? e=some i/\i.size=a7/\a7≠0/\n=dc.length/\n*a7<=16777216/\V1 0 ps.toList dc=true/\(n=0\/∃z,i.zero=some z/\z.cells.size=a7):=by
 cases op with
 |buildSlice t n ps=>
  simp only[A9,ya,decide_eq_true_eq,bne_iff_ne,beq_iff_eq,Mb]at h;obtain⟨⟨⟨⟨⟨h1,h2⟩,h3⟩,h4⟩,h5⟩,h6⟩:=h;obtain⟨e,he,h1⟩:=W1 h1;obtain⟨i,hi,hs⟩:=QG h1;refine⟨t,n,ps,e,i,rfl,he,hi,hs,h2,h3,h4,h5,h6.imp id λh6=>?_⟩;obtain⟨e',jb,h6⟩:=W1 h6;rw[he]at jb;obtain rfl:e=e':=by simpa using jb
  obtain⟨i',z,x5,hz,va⟩:=Aef h6;rw[hi]at x5;obtain rfl:i=i':=by simpa using x5
  exact⟨z,hz,va⟩
 |_=>exact ta h
theorem Vm{x':AL}{off:Nat}(h:A9 P num op (.o4 x' off)=true):∃t x f fs fd i,op = .fieldAddr t x f/\BW x x'=true/\P.underlying t=some (.struct fs)/\fs[f]?=some fd/\fd.offset=off/\P.info? fd.type=some i/\i.size≠0:=by
 cases op with
 |fieldAddr t x f=>
  simp only[A9,ya]at h;obtain⟨h1,h2⟩:=h;split at h2
  ·rename_i fs vt
   split at h2
   ·rename_i fd Km
    simp only[ya,beq_iff_eq]at h2;obtain⟨h3,h4⟩:=h2;split at h4
    ·rename_i i hi
     exact⟨t,x,f,fs,fd,i,rfl,h1,vt,Km,h3,hi,by simpa using h4⟩
    ·cases h4
   ·cases h2
  ·cases h2
 |_=>exact ta h
theorem AkT{x':AL}{off n:Nat}{agg:Bool}(h:A9 P num op (.og x' off n agg)=true):∃t x f fs fd i,op = .field t x f/\BW x x'=true/\P.underlying t=some (.struct fs)/\fs[f]?=some fd/\fd.offset=off/\P.info? fd.type=some i/\i.size=n/\(∀w,(isAgg fd.type).run P w = .ok agg w)/\n≠0:=by
 cases op with
 |field t x f=>
  simp only[A9,ya]at h;obtain⟨⟨h1,h2⟩,h3⟩:=h;unfold Tf at h2;unfold Tg at h3;split at h2
  ·rename_i fs vt
   split at h2
   ·rename_i fd Km
    simp only[ya,beq_iff_eq,bne_iff_ne]at h2;obtain⟨⟨h4,h5⟩,h6⟩:=h2;obtain⟨i,hi,hs⟩:=QG h5;rw[vt]at h3;simp only[Km]at h3;exact⟨t,x,f,fs,fd,i,rfl,h1,vt,Km,h4,hi,hs,kX h3,h6⟩
   ·cases h2
  ·cases h2
 |_=>exact ta h
theorem gR{arr:Option Nat}{a7:Nat}{x' i':AL}(h:A9 P num op (.u4 arr a7 x' i')=true):∃t x i e inf,op = .indexAddr t x i/\BW x x'=true/\BW i i'=true/\P.info? e=some inf/\inf.size=a7 /\
  ((∃len,arr=some len/\P.underlying t=some (.array len e)/\1<len)\/(arr=none/\P.underlying t=some (.slice e)/\a7≠0)):=by
 cases op with
 |indexAddr t x i=>
  simp only[A9,ya]at h;obtain⟨⟨h1,h2⟩,h3⟩:=h;split at h3
  ·rename_i len e ui hu
   simp only[ya,beq_iff_eq,decide_eq_true_eq]at h3;obtain⟨⟨h4,h5⟩,h6⟩:=h3;obtain⟨inf,hi,hs⟩:=QG h5;exact⟨t,x,i,e,inf,rfl,h1,h2,hi,hs,.inl ⟨len,by rw[h4],hu,h6⟩⟩
  ·rename_i e hu
   simp only[ya,bne_iff_ne]at h3;obtain⟨inf,hi,hs⟩:=QG h3.1;exact⟨t,x,i,e,inf,rfl,h1,h2,hi,hs,.inr ⟨rfl,hu,h3.2⟩⟩
  ·cases h3
 |_=>exact ta h
theorem Vn{agg:Bool}{n:Nat}{x':AL}(h:A9 P num op (.ld agg n x')=true):∃t x,op = .load t x/\BW x x'=true/\(∀w,(isAgg t).run P w = .ok agg w)/\(if agg then∃i,P.info? t=some i/\i.size=n else n=1):=by
 cases op with
 |load t x=>
  simp only[A9,ya]at h;obtain⟨⟨h1,h2⟩,h3⟩:=h;refine⟨t,x,rfl,h1,kX h2,?_⟩;cases agg
  ·simpa using h3
  ·exact QG (by simpa using h3)
 |_=>exact ta h
theorem Ak2{n:Nat}{x' v':AL}(h:A9 P num op (.st n x' v')=true):∃t x v i,op = .store t x v/\BW x x'=true/\BW v v'=true/\P.info? t=some i/\i.size=n:=by
 cases op with
 |store t x v=>
  simp only[A9,ya]at h;obtain⟨⟨h1,h2⟩,h3⟩:=h;obtain⟨i,hi,hs⟩:=QG h3;exact⟨t,x,v,i,rfl,h1,h2,hi,hs⟩
 |_=>exact ta h
theorem AkW{s a7 bytes:Nat}{zero:w_}{l' c':AL}(h:A9 P num op (.mk s a7 bytes zero l' c')=true):∃t l c e i z,op = .makeSlice t l c/\BW l l'=true/\BW c c'=true/\P.underlying t=some (.slice e)/\P.info? e=some i/\i.size=a7/\i.bytes=bytes/\i.zero=some z/\Q0 z.cells.toList zero=true/\a7≠0:=by
 cases op with
 |makeSlice t l c=>
  simp only[A9,ya,bne_iff_ne]at h;obtain⟨⟨⟨h1,h2⟩,h3⟩,h4⟩:=h;obtain⟨e,he,h3⟩:=W1 h3;simp only[ya]at h3;obtain⟨⟨h5,h6⟩,h7⟩:=h3;obtain⟨i,hi,hs⟩:=QG h5;obtain⟨i2,wc,zo⟩:=vB h6;obtain⟨i3,z,Ej,hz,gu⟩:=tB h7;rw[hi]at wc Ej;obtain rfl:i=i2:=by simpa using wc
  obtain rfl:i=i3:=by simpa using Ej
  exact⟨t,l,c,e,i,z,rfl,h1,h2,he,hi,hs,zo,hz,gu,h4⟩
 |_=>exact ta h
theorem oN{a7:Nat}{x':AL}{ql x5:Option AL}(h:A9 P num op (.iz a7 x' ql x5)=true):∃t x lo hi e i,op = .slice t x lo hi none/\BW x x'=true/\OR lo ql=true/\OR hi x5=true/\P.underlying t=some (.slice e)/\P.info? e=some i/\i.size=a7/\a7≠0:=by
 cases op with
 |slice t x lo hi mx=>
  cases mx with
  |some _=>exact ta h
  |none=>
   simp only[A9,ya,bne_iff_ne]at h;obtain⟨⟨⟨⟨h1,h2⟩,h3⟩,h4⟩,h5⟩:=h;obtain⟨e,he,h4⟩:=W1 h4;obtain⟨i,x5,hs⟩:=QG h4;exact⟨t,x,lo,hi,e,i,rfl,h1,h2,h3,he,x5,hs,h5⟩
 |_=>exact ta h
theorem AkS{x':AL}{i:Nat}(h:A9 P num op (.ext x' i)=true):∃x,op = .extract x i/\BW x x'=true:=by
 cases op with
 |extract x j=>
  simp only[A9,ya,beq_iff_eq]at h;exact⟨x,by rw[h.2],h.1⟩
 |_=>exact ta h
theorem Zs{α:Type}{xs:Array α}{x y:α}(h:xs.toList=[x,y]):xs = #[x,y]:=by cases xs;simp_all
theorem Zr{α:Type}{xs:Array α}{x:α}(h:xs.toList=[x]):xs = #[x]:=by cases xs;simp_all
theorem AkV{x':AL}(h:A9 P num op (.len x')=true):∃x t e,op = .call ⟨.builtin .len,#[x],#[t]⟩/\BW x x'=true/\P.underlying t=some (.slice e):=by
 cases op with
 |call c=>
  obtain⟨cl,xs,ts⟩:=c;cases cl with
  |builtin b=>
   cases b<;>first|exact ta h|skip
   simp only[A9]at h;split at h
   ·rename_i x t hx ht
    simp only[ya]at h;obtain⟨e,he,_⟩:=W1 h.2;exact⟨x,t,e,by rw[Zr hx,Zr ht],h.1,he⟩
   ·cases h
  |value f=>cases f<;>exact ta h
  |invoke=>exact ta h
 |_=>exact ta h
theorem Vo{mx:Bool}{xs':List AL}(h:A9 P num op (.mm mx xs')=true):∃xs ts,op = .call ⟨.builtin (if mx then .max else .min),xs,ts⟩/\EW xs.toList xs'=true:=by
 cases op with
 |call c=>
  obtain⟨cl,xs,ts⟩:=c;cases cl with
  |builtin b=>
   cases b<;>first|exact ta h|skip
   all_goals
    simp only[A9,ya]at h;refine⟨xs,ts,?_,h.2⟩;cases mx<;>simp_all
  |value f=>cases f<;>exact ta h
  |invoke=>exact ta h
 |_=>exact ta h
theorem Vk{s a7 bytes:Nat}{x' y':AL}(h:A9 P num op (.app s a7 bytes x' y')=true):∃x y t e i z tx ex,op = .call ⟨.builtin .append,#[x,y],#[t,tx]⟩/\BW x x'=true/\BW y y'=true/\P.underlying t=some (.slice e)/\P.info? e=some i/\i.size=a7/\i.bytes=bytes/\i.zero=some z/\z.cells.size=a7/\a7≠0/\P.underlying tx=some (.slice ex):=by
 cases op with
 |call c=>
  obtain⟨cl,xs,ts⟩:=c;cases cl with
  |builtin b=>
   cases b<;>first|exact ta h|skip
   simp only[A9]at h;split at h
   ·rename_i x y t u hx ht
    simp only[ya,beq_iff_eq,bne_iff_ne]at h;obtain⟨⟨⟨⟨h1,h2⟩,h3⟩,h4⟩,h5⟩:=h;obtain⟨e,he,h3⟩:=W1 h3;simp only[ya]at h3;obtain⟨⟨h6,h7⟩,h8⟩:=h3;obtain⟨i,hi,hs⟩:=QG h6;obtain⟨i2,wc,zo⟩:=vB h7;obtain⟨i3,z,Ej,hz,gu⟩:=Aef h8;rw[hi]at wc Ej;obtain rfl:i=i2:=by simpa using wc
    obtain rfl:i=i3:=by simpa using Ej
    obtain⟨ex,hex,_⟩:=W1 h5;exact⟨x,y,t,e,i,z,u,ex,by rw[Zs hx,Zs ht],h1,h2,he,hi,hs,zo,hz,gu,h4,hex⟩
   ·cases h
  |value f=>cases f<;>exact ta h
  |invoke=>exact ta h
 |_=>exact ta h
theorem gQ{f:Nat}{xs':List AL}(h:A9 P num op (.call f xs')=true):∃xs ts,op = .call ⟨.value (.func (num f)),xs,ts⟩/\EW xs.toList xs'=true:=by
 cases op with
 |call c=>
  obtain⟨cl,xs,ts⟩:=c;cases cl with
  |builtin b=>cases b<;>exact ta h
  |value g=>
   cases g with
   |func g=>
    simp only[A9,ya,beq_iff_eq]at h;exact⟨xs,ts,by rw[h.1],h.2⟩
   |_=>exact ta h
  |invoke=>exact ta h
 |_=>exact ta h
theorem AkN{f:Nat}{xs':List AL}(h:A9 P num op (.j6 f xs')=true):∃xs ts,op = .call ⟨.value (.func (num f)),xs,ts⟩/\EW xs.toList xs'=true:=by
 cases op with
 |call c=>
  obtain⟨cl,xs,ts⟩:=c;cases cl with
  |builtin b=>cases b<;>exact ta h
  |value g=>
   cases g with
   |func g=>
    simp only[A9,ya,beq_iff_eq]at h;exact⟨xs,ts,by rw[h.1],h.2⟩
   |_=>exact ta h
  |invoke=>exact ta h
 |_=>exact ta h
theorem AkO{f:Nat}{xs':List AL}(h:A9 P num op (.o8 f xs')=true):A9 P num op (.call f xs')=true:=by
 cases op<;>exact h
theorem AkZ{x':AL}(h:A9 P num op (.mg x')=true):∃x,op = .nilCheck x/\BW x x'=true:=by
 cases op with
 |nilCheck x=>exact⟨x,rfl,h⟩
 |_=>exact ta h
theorem AkQ{s f:Nat}{xs':List AL}(h:A9 P num op (.dh s f xs')=true):A9 P num op (.j6 f xs')=true:=by
 cases op<;>exact h
theorem AkP{s f:Nat}{xs':List AL}(h:A9 P num op (.y5 s f xs')=true):A9 P num op (.call f xs')=true:=by
 cases op<;>exact h
theorem Ak3{s n:Nat}{x' v':AL}(h:A9 P num op (.qt s n x' v')=true):A9 P num op (.st n x' v')=true:=by
 cases op<;>exact h
theorem Vl{s a7 bytes:Nat}{x' y':AL}(h:A9 P num op (.dw s a7 bytes x' y')=true):A9 P num op (.app s a7 bytes x' y')=true:=by
 cases op<;>exact h
theorem AkU{ne:Bool}{x':AL}(h:A9 P num op (.uh ne x')=true):∃t x u e,op = .binOp (if ne then .neq else .eql) t x (.const (.slice none 0 0)) u/\P.underlying t=some (.slice e)/\BW x x'=true:=by
 cases op with
 |binOp f' t x y u=>
  simp only[A9]at h;split at h
  ·rename_i heq
   simp only[Op.binOp.injEq]at heq;obtain⟨rfl,rfl,rfl,rfl,rfl⟩:=heq;simp only[ya]at h;obtain⟨⟨h1,h2⟩,h3⟩:=h;unfold KP at h2;split at h2
   ·rename_i e he
    refine⟨t,x,u,e,?_,he,h3⟩;cases ne
    ·simp only[Ga,if_false,beq_iff_eq]at h1;rw[h1];rfl
    ·simp only[if_true,beq_iff_eq]at h1;rw[h1];rfl
   ·cases h2
  ·cases h
 |_=>exact ta h
theorem Ak1{tb:u_}{i':AL}(h:A9 P num op (.jg tb i')=true):∃t s i,op = .index t (.const (.string s)) i/\P.underlying t=some .string/\s.data.toList.map (λb=>b.toNat)=tb/\BW i i'=true:=by
 cases op with
 |index t x i=>
  simp only[A9]at h;split at h
  ·rename_i heq
   simp only[Op.index.injEq]at heq;obtain⟨rfl,rfl,rfl⟩:=heq;simp only[ya,beq_iff_eq]at h;obtain⟨⟨h1,h2⟩,h3⟩:=h;exact⟨_,_,_,rfl,by split at h1<;>simp_all,h2,h3⟩
  ·cases h
 |_=>exact ta h
theorem AkX{p:Bool}{f:Nat}{xs':List AL}(h:A9 P num op (.qm p f xs')=true):∃first xs,op = .makeFunc (.func (num f)) first xs/\first = #[]/\EW xs.toList xs'=true:=by
 cases op with
 |makeFunc g first xs=>
  cases g with
  |func g=>
   simp only[A9,ya,beq_iff_eq]at h;obtain⟨⟨rfl,h2⟩,h3⟩:=h;refine⟨first,xs,rfl,?_,h3⟩;obtain⟨l⟩:=first
   simp at h2;rw[h2]
  |_=>exact ta h
 |_=>exact ta h
theorem oM{x':AL}{xs':List AL}(h:A9 P num op (.v8 x' xs')=true):∃x xs ts,op = .call ⟨.value x,xs,ts⟩/\BW x x'=true/\EW xs.toList xs'=true:=by
 cases op with
 |call c=>
  obtain⟨cl,xs,ts⟩:=c;cases cl with
  |builtin b=>cases b<;>exact ta h
  |value g=>
   simp only[A9,ya]at h;exact⟨g,xs,ts,rfl,h.1,h.2⟩
  |invoke=>exact ta h
 |_=>exact ta h
end
end Go.e9

namespace Go.e9
open Go.RowKit
def B9.ax:B9->Own->Own
 |.val _,o=>o
 |.new s b _,o=>o.put s ((o s).new b)
 |.Ae s b _,o=>o.put s ((o s).new b)
 |.cn _ o',_=>o'
 |.Bp s _ o',o=>o'.put s (o s)
 |.u5 s x,o=>o.put s x
 |.tn s x _,o=>o.put s x
def B9.valOf:B9->Own->AV
 |.val v,_=>v
 |.new s _ v,o=>v (o.j7 s)
 |.Ae s _ v,o=>v (o.j7 s)
 |.cn v _,_=>v
 |.Bp _ v _,_=>v
 |.u5 _ _,_=>.j5 []
 |.tn _ _ v,_=>v
section
variable {B:Nat} {S:Nat->Prop} {w0:GG} {m:M}
theorem JE{k:IntKind}{n:Int}{v:Value}(h:CV B S m (.int k n) v):v = .int k n:=by
 cases h with
 |ca h=>cases h with
  |one h=>cases h with
   |rd h=>cases h;rfl
theorem VU{b:Bool}{v:Value}(h:CV B S m (.bool b) v):v = .bool b:=by
 cases h with
 |ca h=>cases h with
  |one h=>cases h with
   |rd h=>cases h;rfl
theorem Ag5{cs:w_}{v:Value}(h:CV B S m (.agg cs) v):∃vs:List Value,v = .agg vs.toArray/\CL B S m cs vs:=by
 cases h with
 |ca h=>cases h with
  |one h=>cases h with
   |rd h=>cases h
  |agg _ vs h=>exact⟨vs,rfl,h⟩
theorem lR{cs:w_}{v:Value}(h:CV B S m (.j5 cs) v):∃vs:List Value,v = .tuple vs.toArray/\cs.length=vs.length/\∀(j:Nat)(c:AV)(u:Value),cs[j]?=some c->vs[j]?=some u->CA B S m c u:=by
 cases h with
 |ca h=>cases h with
  |one h=>cases h with
   |rd h=>cases h
 |j5 _ vs hl h=>exact⟨vs,rfl,hl,h⟩
theorem S3(k:IntKind)(n:Int):CV B S m (.int k n) (.int k n):= .ca (.one (.rd (.int k n)))
theorem iC(b:Bool):CV B S m (.bool b) (.bool b):= .ca (.one (.rd (.bool b)))
theorem Ux:CV B S m (.j5 []) undef := .j5 [] [] rfl (λj c v h=>by simp at h)
theorem eR{a:AV}{cs:w_}{v:Value}(h:CV B S m a v)(hc:cellsOf a=some cs):CL B S m cs v.cells.toList:=by
 cases h with
 |any v=>simp[cellsOf]at hc
 |j5=>simp[cellsOf]at hc
 |ca h=>cases h with
  |agg gj vs h=>
   obtain rfl:gj=cs:=by simpa [cellsOf]using hc
   simpa [Value.cells]using h
  |fn=>simp[cellsOf]at hc
  |um=>simp[cellsOf]at hc
  |one h=>
   have h1:v.cells.toList=[v]:=by
    cases h with
    |rd h=>cases h<;>rfl
    |_=>rfl
   have h2:cs=[a]:=by
    cases h with
    |rd h=>cases h<;>simp[cellsOf]at hc<;>exact hc.symm
    |_=>simp[cellsOf]at hc;exact hc.symm
   rw[h1,h2];refine⟨rfl,λj c u hj hu=>?_⟩;cases j with
   |zero=>simp at hj hu;subst hj hu;exact h
   |succ j=>simp at hj
theorem AgE{cs:w_}{vs:List Value}(h:CL B S m cs vs):∀v∈vs,v.oneCell'=true:=by
 intro v hv;obtain⟨j,hj,rfl⟩:=Lc hv;have El:j<cs.length:=by rw[h.1];exact hj
 exact(h.2 j cs[j] vs[j] (zE El) (zE hj)).one
theorem AgF{cs:w_}{vs:List Value}(h:CL B S m cs vs)(off n:Nat):CL B S m ((cs.drop off).take n) ((vs.drop off).take n):=by
 refine⟨by simp[h.1],λj c v hj hv=>?_⟩;rw[ea]at hj hv;split at hj
 ·rename_i k7
  rw[if_pos k7]at hv;rw[Qa]at hj hv;exact h.2 _ c v hj hv
 ·cases hj
theorem xZ{v:Value}{a:AV}(h:fO v a=true):CC B S m a v:=by
 unfold fO at h;split at h
 ·simp only[ya,beq_iff_eq]at h
  obtain⟨rfl,rfl⟩:=h;exact .rd (.int _ _)
 ·obtain rfl:_=_:=by simpa using h
  exact .rd (.bool _)
 ·exact .nil
 ·rename_i s s'
  obtain rfl:s=s':=by
   have h':s.data.toList=s'.data.toList:=by simpa using h
   obtain⟨⟨l⟩⟩:=s;obtain⟨⟨l'⟩⟩:=s';simp only at h';rw[h']
  exact .rd (.str _)
 ·exact .rd .ni
 ·exact .rd .nj
 ·cases h
theorem X9:∀{vs:List Value}{cs:w_},Q0 vs cs=true->CL B S m cs vs
 |[],[],_=>⟨rfl,λj c v h=>by simp at h⟩
 |v::r,c::l,h=>by
  simp only[Q0,ya]at h;have ih:=X9 (vs:=r) (cs:=l) h.2;refine⟨by simp[ih.1],λj c' v' hj hv=>?_⟩;cases j with
  |zero=>simp at hj hv;subst hj hv;exact xZ h.1
  |succ j=>exact ih.2 j c' v' (by simpa using hj) (by simpa using hv)
 |[],_::_,h=>by simp[Q0]at h
 |_::_,[],h=>by simp[Q0]at h
theorem Aip{v:Value}{a:AV}(h:mN v a=true):CV B S m a v:=by
 unfold mN at h;split at h
 ·rename_i cs l
  have:=X9 (B:=B) (S:=S) (m:=m) h
  exact .ca (by simpa using CA.agg l cs.toList this)
 ·exact .ca (.one (xZ h))
def CM(B:Nat)(S:Nat->Prop)(m:M)(ρ:AL->AV)(e:Operand->Value):Prop := ∀x y,BW x y=true->CV B S m (ρ y) (e x)
theorem Am4{T:Nat->AV}{a:Act}{ρ:AL->AV}(hρt:∀n,ρ (.t n)=T n)(hρc:∀v,ρ (.c v)=v)(h:∀i,CV B S m (T i) (a.tmps.getD i undef)):CM B S m ρ a.eval:=by
 intro x y vf;unfold BW at vf;split at vf
 ·obtain rfl:_=_:=by simpa using vf
  rw[hρt];exact h _
 ·rw[hρc]
  exact Aip vf
 ·obtain rfl:_=_:=by simpa using vf
  rw[hρc];exact .ca (.fn _ _ _ [] [] (λ_=>rfl) ⟨rfl,λj c v h=>by simp at h⟩)
 ·cases vf
variable {P:Program} {num:Nat->Nat} {o:Oper} {a:Act} {ρ:AL->AV} {K:Act->World->Prop} {Q:Exit->Act->World->Prop}
theorem OG{w w':World}{u:Value}(h:(execOp a.eval o).run P w = .ok (.value u) w')(hk:K (a.put o.dst u) w'):o.wp P a w K Q:=by
 unfold Oper.wp;rw[h];exact hk
theorem Zc{w w':World}(h:(execOp a.eval o).run P w = .ok .skip w')(hk:K (a.put o.dst undef) w'):o.wp P a w K Q:=by
 unfold Oper.wp;rw[h];exact hk
def CQ(B:Nat)(S:Nat->Prop)(w0:GG)(P:Program)(o:Oper)(a:Act)(m:M)(E:B9):Prop :=
 ∀(K:Act->World->Prop)(Q:Exit->Act->World->Prop),(∀u m',m'.own=E.ax m.own->BJ B S w0 m'->DB B S m m'->CV B S m' (E.valOf m.own) u->K (a.put o.dst u) m'.w)->o.wp P a m.w K Q
theorem E5(hm:BJ B S w0 m){v:AV}{u:Value}(h:(execOp a.eval o).run P m.w = .ok (.value u) m.w)(hc:CV B S m v u):CQ B S w0 P o a m (.val v) :=
 λK Q hK=>OG h (hK u m rfl hm (DB.refl m) hc)
theorem AhX(hm:BJ B S w0 m)(hs:CM B S m ρ a.eval){y:AL}(h:A9 P num o.op (.q9 y)=true):CQ B S w0 P o a m (.val (ρ y)):=by
 obtain⟨x,hx,he⟩:=AkY h;refine E5 hm (u:=a.eval x) ?_ (hs x y he);rcases hx with hx|hx<;>simp[execOp,hx]
theorem Ah6(hm:BJ B S w0 m){s z:Nat}(x6:s<EP)(h:A9 P num o.op (.ak s z)=true):CQ B S w0 P o a m (.Ae s ⟨z,[]⟩ (λt=>.row s t z 0 0)):=by
 obtain⟨hx,hz⟩:=Ak5 h;intro K Q hK;obtain⟨h1,h2⟩:=AdZ hm s z x6;refine OG (u := .slice none 0 0) (w':=m.w) ?_ (hK _ ⟨k6 m s none,m.own.put s ((m.own s).new ⟨z,[]⟩),m.w⟩ rfl h1 h2 ?_)
 ·rcases hx with hx|hx<;>simp[execOp,hx,Act.eval]
 ·refine .ca (.one (.row s (m.own.j7 s) z 0 0 none 0 ?_ O' (ga _) (λh=>O') (λb hb=>?_) x6))
  ·show _<Own.j7 _ s
   rw[KY];simp
  ·change Own.get _ s _=some b at hb
   rw[GA,if_pos ⟨rfl,rfl⟩]at hb;obtain rfl:(⟨z,[]⟩:DI)=b:=by simpa using hb
   exact⟨rfl,.inl ⟨rfl,rfl⟩⟩
theorem xA(hm:BJ B S w0 m)(hs:CM B S m ρ a.eval){c' a' b':AL}(h:A9 P num o.op (.pick c' a' b')=true){t:Bool}(hc:ρ c' = .bool t) :
  CQ B S w0 P o a m (.val (if t then ρ a' else ρ b')):=by
 obtain⟨c,x,y,o9,h1,h2,h3⟩:=Ak0 h;have y7:=VU (hc▸hs c c' h1);refine E5 hm (u:=if t then a.eval x else a.eval y) ?_ ?_
 ·cases t<;>simp[execOp,o9,y7,asBool]
 ·cases t
  ·exact hs y b' h3
  ·exact hs x a' h2
theorem Am0(f:BinOp)(t:TypeId)(k k':IntKind)(x y:Int)(v:AV)(h:DM f k x k' y=some v)(w:World):∃u,(binOp f t (.int k x) (.int k' y)).run P w = .ok u w/\((∃n,v = .int k n/\u = .int k n)\/∃b,v = .bool b/\u = .bool b):=by
 cases f<;>simp only[DM]at h;case shl=>
  split at h
  ·cases h
  ·rename_i hy;simp at h;subst h
   exact⟨_,by simp[binOp,Op.shift,hy],.inl ⟨_,rfl,rfl⟩⟩
 case shr=>
  split at h
  ·cases h
  ·rename_i hy;simp at h;subst h
   exact⟨_,by simp[binOp,Op.shift,hy],.inl ⟨_,rfl,rfl⟩⟩
 case quo=>
  split at h
  ·rename_i hy;obtain⟨rfl,hy⟩:=hy;simp at h;subst h
   exact⟨_,by simp[binOp,Op.intDiv,hy],.inl ⟨_,rfl,rfl⟩⟩
  ·cases h
 case rem=>
  split at h
  ·rename_i hy;obtain⟨rfl,hy⟩:=hy;simp at h;subst h
   exact⟨_,by simp[binOp,Op.intDiv,hy],.inl ⟨_,rfl,rfl⟩⟩
  ·cases h
 case and|or|xor|andNot=>
  all_goals
   split at h
   ·rename_i hk;subst hk;obtain rfl:=na h
    exact⟨_,by simp only[binOp,ne_eq,not_true_eq_false,if_false];rfl,.inl ⟨_,rfl,rfl⟩⟩
   ·cases h
 case add|sub|mul=>
  all_goals
   split at h
   ·rename_i hk;subst hk;obtain rfl:=na h
    exact⟨_,by simp[binOp,Op.intArith],.inl ⟨_,rfl,rfl⟩⟩
   ·cases h
 all_goals
  split at h
  ·rename_i hk;subst hk;obtain rfl:=na h
   exact⟨_,by simp[binOp,Op.intCmp],.inr ⟨_,rfl,rfl⟩⟩
  ·cases h
theorem AmU(f:BinOp)(t:TypeId)(x y:Operand)(k k':IntKind)(n n':Int)(w:World):(eqGuard f t x y (.int k n) (.int k' n')).run P w = .ok () w:=by
 unfold eqGuard;cases f<;>simp
theorem AmV(f:BinOp)(t:TypeId)(x y:Operand)(b b':Bool)(w:World):(eqGuard f t x y (.bool b) (.bool b')).run P w = .ok () w:=by
 unfold eqGuard;cases f<;>simp
theorem Ahu(hm:BJ B S w0 m)(hs:CM B S m ρ a.eval){f:BinOp}{x' y':AL}(h:A9 P num o.op (.bin f x' y')=true){k k':IntKind}{n n':Int}{v:AV}(hx:ρ x' = .int k n)(hy:ρ y' = .int k' n')(hv:DM f k n k' n'=some v) :
  CQ B S w0 P o a m (.val v):=by
 obtain⟨t,x,y,u,o9,h1,h2⟩:=AkJ h;have ex:=JE (hx▸hs x x' h1);have ey:=JE (hy▸hs y y' h2);obtain⟨r,hr,eo⟩:=Am0 (P:=P) f t k k' n n' v hv m.w;refine E5 hm (u:=r) ?_ ?_
 ·simp[execOp,o9,ex,ey,AmU,hr]
 ·rcases eo with⟨q,rfl,rfl⟩|⟨q,rfl,rfl⟩
  ·exact S3 _ _
  ·exact iC _
theorem AmX(t:TypeId)(b b':Bool)(hu:P.underlying t=some .bool)(w:World):(Op.equal t (.bool b) (.bool b')).run P w = .ok (b == b') w:=by
 have h:∀d:Nat,(Op.equalIn (d+1) t (.bool b) (.bool b')).run P w = .ok (b == b') w:=λd=>by
  unfold Op.equalIn;rw[Sem.run_bind,run_underlying hu];rfl
 exact h 9999
theorem Aht(hm:BJ B S w0 m)(hs:CM B S m ρ a.eval){ne:Bool}{x' y':AL}(h:A9 P num o.op (.beq ne x' y')=true){b b':Bool}(hx:ρ x' = .bool b)(hy:ρ y' = .bool b') :
  CQ B S w0 P o a m (.val (.bool (if ne then !(b == b')else b == b'))):=by
 obtain⟨t,x,y,u,o9,hu,h1,h2⟩:=AkI h;have ex:=VU (hx▸hs x x' h1);have ey:=VU (hy▸hs y y' h2);refine E5 hm (u := .bool (if ne then !(b == b')else b == b')) ?_ (iC _);cases ne<;>simp[execOp,o9,ex,ey,AmV,binOp,AmX t b b' hu]
theorem Ah5(hm:BJ B S w0 m)(hs:CM B S m ρ a.eval){f:UnOp}{x':AL}(h:A9 P num o.op (.un f x')=true){v:AV}(hv:U0 f (ρ x')=some v):CQ B S w0 P o a m (.val v):=by
 obtain⟨t,x,o9,h1⟩:=Ak4 h;have hx:=hs x x' h1;unfold U0 at hv;split at hv
 ·rename_i k n hk
  have ex:=JE (hk▸hx);split at hv
  ·obtain rfl:_=v:=by simpa using hv
   exact E5 hm (by simp[execOp,o9,ex,Op.unary,Op.intArith]) (S3 _ _)
  ·obtain rfl:_=v:=by simpa using hv
   exact E5 hm (by simp only[execOp,o9,ex,Op.unary];rfl) (S3 _ _)
  ·cases hv
 ·rename_i b hk
  have ex:=VU (hk▸hx);split at hv
  ·obtain rfl:_=v:=by simpa using hv
   exact E5 hm (by simp[execOp,o9,ex,Op.unary]) (iC _)
  ·cases hv
 ·cases hv
theorem AhE(hm:BJ B S w0 m)(hs:CM B S m ρ a.eval){k:IntKind}{x':AL}(h:A9 P num o.op (.conv k x')=true){k':IntKind}{n:Int}(hx:ρ x' = .int k' n):CQ B S w0 P o a m (.val (.int k (k.wrap n))):=by
 obtain⟨s,d,x,ds,o9,uv,hd,h1⟩:=AkR h;have ex:=JE (hx▸hs x x' h1);refine E5 hm (u := .int k (k.wrap n)) ?_ (S3 _ _);simp[execOp,o9,ex,convert,run_underlying uv,run_underlying hd,Conv.intToInt]
theorem AmY(t:TypeId)(a:Option Addr)(n c:Nat){e:TypeId}(hu:P.underlying t=some (.slice e))(w:World):(Op.equal t (.slice a n c) (.slice none 0 0)).run P w = .ok a.isNone w:=by
 have h:∀d:Nat,(Op.equalIn (d+1) t (.slice a n c) (.slice none 0 0)).run P w = .ok a.isNone w:=λd=>by
  unfold Op.equalIn;rw[Sem.run_bind,run_underlying hu];cases a<;>rfl
 exact h 9999
theorem AmW(f:BinOp)(t:TypeId)(x y:Operand)(a b:Option Addr)(n c n' c':Nat)(w:World):(eqGuard f t x y (.slice a n c) (.slice b n' c')).run P w = .ok () w:=by
 unfold eqGuard;cases f<;>simp
theorem fH(hm:BJ B S w0 m)(hs:CM B S m ρ a.eval){ne:Bool}{x':AL}(h:A9 P num o.op (.uh ne x')=true){b:Bool}(hx:∀v,CV B S m (ρ x') v->∃ad n c,v = .slice ad n c/\ad.isNone=b) :
  CQ B S w0 P o a m (.val (.bool (xor b ne))):=by
 obtain⟨t,x,u,e,o9,hu,h1⟩:=AkU h;obtain⟨ad,n,c,ex,hb⟩:=hx _ (hs x x' h1);refine E5 hm (u := .bool (xor b ne)) ?_ (iC _);have e0:a.eval (.const (.slice none 0 0)) = .slice none 0 0:=rfl;cases ne<;>cases b<;>simp[execOp,o9,ex,e0,AmW,binOp,AmY t ad n c hu,hb]
theorem VV{v:Value}(h:CV B S m .nil v):v = .slice none 0 0:=by
 cases h with
 |ca h=>cases h with
  |one h=>cases h with
   |rd h=>cases h
   |nil=>rfl
theorem wD{b:Bool}{v:Value}(h:CV B S m (.y8 (.bool b)) v):∃ad c,v = .slice ad 0 c/\ad.isNone=b:=by
 cases h with
 |ca h=>cases h with
  |one h=>cases h with
   |rd h=>cases h with
    |emp b a cap h=>exact⟨a,cap,rfl,h⟩
theorem Ag9{l:Bool}{e:w_}{es:v_}{v:Value}(h:CV B S m (.sl l (e::es)) v):∃ad n c,v = .slice ad n c/\ad.isNone=false:=by
 cases h with
 |ca h=>cases h with
  |one h=>cases h with
   |rd h=>cases h with
    |sl=>exact⟨_,_,_,rfl,rfl⟩
theorem Ag8{s t z off n:Nat}{v:Value}(h:CV B S m (.row s t z off (n+1)) v):∃ad n c,v = .slice ad n c/\ad.isNone=false:=by
 cases h with
 |ca h=>cases h with
  |one h=>cases h with
   |rd h=>cases h
   |row _ _ _ _ _ a cap _ _ _ ha=>exact⟨_,_,_,rfl,by have:=ha O';cases a<;>simp_all⟩
theorem Ah0(hm:BJ B S w0 m)(hs:CM B S m ρ a.eval){tb:u_}{x':AL}(h:A9 P num o.op (.jg tb x')=true){k:IntKind}{n:Int}{v:Nat}(hx:ρ x' = .int k n)(h0:0<=n)(hv:tb[n.toNat]?=some v) :
  CQ B S w0 P o a m (.val (.int .u8 v)):=by
 obtain⟨t,s,i,o9,hu,Ip,h1⟩:=Ak1 h;have ex:=JE (hx▸hs i x' h1);have hb:∃b:UInt8,s[n.toNat]?=some b/\b.toNat=v:=by
  rw[<-Ip,ja]at hv;cases hg:s.data.toList[n.toNat]? with
  |none=>simp[hg]at hv
  |some b=>
   simp only[hg,Ia,za]at hv;refine⟨b,?_,hv⟩;have k7:n.toNat<s.size:=by
    have:=(zS hg).1
    simpa using this
   rw[getElem?_pos s n.toNat k7];congr 1;have:=(zS hg).2
   rw[<-this];rfl
 obtain⟨b,qe,w7⟩:=hb;refine E5 hm (u := .int .u8 v) ?_ (S3 _ _);have e0:a.eval (.const (.string s)) = .string s:=rfl;simp[execOp,o9,ex,e0,Instr.index,asIntOf,run_underlying hu,h0,qe,w7]
theorem Amd{x c:AV}{v:Value}(h:CV B S m x v)(hc:IL x=some c):CC B S m c v:=by
 cases h with
 |any=>simp[IL]at hc
 |j5=>simp[IL]at hc
 |ca h=>cases h with
  |agg=>simp[IL]at hc
  |fn=>simp[IL]at hc
  |um=>simp[IL]at hc
  |one h=>
   have:c=x:=by
    cases h with
    |rd h=>cases h<;>simp[IL]at hc<;>exact hc.symm
    |_=>simp[IL]at hc;exact hc.symm
   subst this;exact h
theorem xX(hs:CM B S m ρ a.eval):∀{xs:List Operand}{xs':List AL}{cs:w_},EW xs xs'=true->xs'.mapM (λx=>IL (ρ x))=some cs->CL B S m cs (xs.map a.eval)
 |[],[],cs,_,h=>by
  simp at h;subst h;exact⟨rfl,λj c v h=>by simp at h⟩
 |x::r,y::l,cs,h,hc=>by
  simp only[EW,ya]at h;simp only[ub,qb,Eb]at hc;cases h1:IL (ρ y)with
  |none=>simp[h1]at hc
  |some c=>
   cases h2:l.mapM (λx=>IL (ρ x))with
   |none=>simp[h1,h2]at hc
   |some gj=>
    simp[h1,h2]at hc;subst hc;have ih:=xX hs h.2 h2;refine⟨by simpa using ih.1,λj c' v hj hv=>?_⟩;cases j with
    |zero=>
     simp at hj hv;subst hj hv;exact Amd (hs x y h.1) h1
    |succ j=>exact ih.2 j c' v (by simpa using hj) (by simpa using hv)
 |[],_::_,_,h,_=>by simp[EW]at h
 |_::_,[],_,h,_=>by simp[EW]at h
theorem AhS(hm:BJ B S w0 m)(hs:CM B S m ρ a.eval){p:Bool}{f:Nat}{xs':List AL}(h:A9 P num o.op (.qm p f xs')=true){cs:w_}(hc:xs'.mapM (λx=>IL (ρ x))=some cs) :
  CQ B S w0 P o a m (.val (.fn (p&&cs.isEmpty) f (num f) cs)):=by
 obtain⟨first,xs,o9,rfl,he⟩:=AkX h;have u6:=xX hs he hc;have bq:(xs.map a.eval)=(xs.toList.map a.eval).toArray:=by cases xs;simp
 refine E5 hm (u := .func (.func (num f)) #[] (xs.toList.map a.eval).toArray) ?_ (.ca (.fn (p&&cs.isEmpty) f (num f) cs _ (λh=>by simpa using(ya _ _▸h:p=true/\cs.isEmpty=true).2) u6));simp[execOp,o9,Instr.makeFunc,bq]
end
end Go.e9

namespace Go.e9
open Go.RowKit
section
variable {B:Nat} {S:Nat->Prop} {w0:GG} {m:M}
variable {P:Program} {num:Nat->Nat} {o:Oper} {a:Act} {ρ:AL->AV}
theorem X0{cs:w_}{vs:List Value}(h:CL B S m cs vs){j:Nat}{c:AV}(hj:cs[j]?=some c):∃u,vs[j]?=some u/\CC B S m c u:=by
 have k7:j<cs.length:=(zS hj).1;have pd:j<vs.length:=by rw[<-h.1];exact k7
 exact⟨vs[j],zE pd,h.2 j c _ hj (zE pd)⟩
theorem Al3{s:Nat}(x6:s<EP){b:DI}{w':World}{g:Nat}:CV B S ⟨k6 m s (some g),m.own.put s ((m.own s).new b),w'⟩ (.ptr s (m.own.j7 s) 0 0) (.pointer (some ⟨g,0,none⟩)):=by
 refine .ca (.one (.ptr s (m.own.j7 s) 0 0 ⟨g,0,none⟩ ?_ (λb' j9=>⟨g,?_,Z'⟩) x6))
 ·show _<Own.j7 _ s
  rw[KY];simp
 ·simp[k6]
theorem wZ(hm:BJ B S w0 m)(s:Nat)(x6:s<EP)(cs:w_)(vs:Array Value)(e:TypeId)(hc:CL B S m cs vs.toList)(h:(execOp a.eval o).run P m.w = .ok (.value (.pointer (some ⟨m.w.heap.size,0,none⟩))) (m.w.alloc (.cells vs e))) :
  CQ B S w0 P o a m (.new s ⟨cs.length,[cs]⟩ (λt=>.ptr s t 0 0)):=by
 intro K Q hK;obtain⟨h1,h2⟩:=kZ hm s x6 ⟨cs.length,[cs]⟩ vs e Z' (λi gj hi j c hj=>by
  cases i with
  |zero=>
   obtain rfl:cs=gj:=by simpa using hi
   obtain⟨u,hu,ck⟩:=X0 hc hj;exact⟨u,by simpa using hu,ck⟩
  |succ i=>simp at hi)
 exact OG h (hK _ ⟨k6 m s (some m.w.heap.size),m.own.put s ((m.own s).new ⟨cs.length,[cs]⟩),m.w.alloc (.cells vs e)⟩ rfl h1 h2 (Al3 x6))
theorem Ahv(hm:BJ B S w0 m)(hs:CM B S m ρ a.eval){s:Nat}(x6:s<EP){x':AL}(h:A9 P num o.op (.box s x')=true){cs:w_}(hc:cellsOf (ρ x')=some cs) :
  CQ B S w0 P o a m (.new s ⟨cs.length,[cs]⟩ (λt=>.ptr s t 0 0)):=by
 obtain⟨t,x,o9,h1⟩:=AkK h;exact wZ hm s x6 cs (a.eval x).cells t (eR (hs x x' h1) hc) (by simp[execOp,o9,Instr.box,newVar,newRow])
theorem Ahr(hm:BJ B S w0 m){s:Nat}(x6:s<EP){z:w_}(h:A9 P num o.op (.alloc s z)=true):CQ B S w0 P o a m (.new s ⟨z.length,[z]⟩ (λt=>.ptr s t 0 0)):=by
 obtain⟨t,o9,h1⟩:=AkH h;obtain⟨i,v,hi,hz,he⟩:=tB h1;exact wZ hm s x6 z v.cells t (X9 he) (by simp[execOp,o9,Instr.alloc,zeroValue,typeInfo,hi,hz,newVar,newRow])
theorem nS(off:Nat):∀(vs:List Value)(k:Nat)(cells:Array Value),off+k+vs.length<=cells.size ->
  ((vs.zipIdx k).foldl (λcs (x:Value×Nat)=>cs.setIfInBounds (off+x.2) x.1) cells).toList=cells.toList.take (off+k)++vs++cells.toList.drop (off+k+vs.length)
 |[],k,cells,_=>Z'
 |v::r,k,cells,h=>by
  simp only[Qc]at h;rw[List.zipIdx_cons,td,nS off r (k+1) _ K'];simp only[Array.toList_setIfInBounds,Qc];apply List.ext_getElem?;intro q;have e1:(cells.toList.set (off+k) v).drop (off+(k+1)+r.length)=cells.toList.drop (off+k+(r.length+1)):=by
   rw[show off+(k+1)+r.length=off+k+(r.length+1)by omega];exact List.drop_set_of_lt O'
  have e2:(cells.toList.set (off+k) v).take (off+(k+1))=cells.toList.take (off+k)++[v]:=by
   rw[show off+(k+1)=off+k+1 by omega,List.take_succ_eq_append_getElem K'];simp[List.take_set_of_le]
  rw[e1,e2];simp
theorem nL(place:Nat->Option (Nat×Nat))(hs:CM B S m ρ a.eval):∀(ps:List (Nat×Operand))(dc:List (Nat×Nat×AL))(cs gj:w_)(vs:Array Value),WM place ps dc=true->CL B S m cs vs.toList ->
  fill cs (dc.map λp=>(p.1,p.2.1,ρ p.2.2))=some gj->∃df,Instr.fill place vs (ps.map λp=>(p.1,a.eval p.2))=some df/\CL B S m gj df.toList
 |[],[],cs,gj,vs,_,hc,hf=>by
  simp[fill]at hf;subst hf;exact⟨vs,rfl,hc⟩
 |(i,x)::r,(off,n,y)::l,cs,gj,vs,hp,hc,hf=>by
  simp only[WM,ya,beq_iff_eq]at hp;obtain⟨⟨Pl,Pm⟩,hp3⟩:=hp;simp only[Da,fill]at hf;cases hcell:cellsOf (ρ y)with
  |none=>simp[hcell]at hf
  |some us=>
   simp only[hcell]at hf;split at hf
   ·rename_i hn
    obtain⟨hn1,Pc⟩:=hn;have fq:=eR (hs x y Pm) hcell;have x8:(a.eval x).cells.size=n:=by rw[<-hn1,fq.1];simp
    have Dc:off+(a.eval x).cells.size<=vs.size:=by rw[x8];have:=hc.1;simp at this;omega
    have vq:=nS off (a.eval x).cells.toList 0 vs (by simpa using Dc);have jk:Instr.fill place vs (((i,x)::r).map λp=>(p.1,a.eval p.2))=Instr.fill place ((a.eval x).cells.zipIdx.foldl (λcs (c,j)=>cs.setIfInBounds (off+j) c) vs) (r.map λp=>(p.1,a.eval p.2)):=by
     simp only[Da,Instr.fill,Pl];rw[if_neg K']
    rw[jk];refine nL place hs r l (splice cs off us) gj _ hp3 ?_ hf;have hz:((a.eval x).cells.zipIdx.foldl (λcs (c,j)=>cs.setIfInBounds (off+j) c) vs).toList=vs.toList.take off++(a.eval x).cells.toList++vs.toList.drop (off+(a.eval x).cells.toList.length):=by
     rw[<-uc];simpa using vq
    rw[hz];unfold splice;refine⟨?_,λj c v hj hv=>?_⟩
    ·have:=hc.1;have:=fq.1;simp at*;omega
    ·have ij:=hc.1
     have jd:=fq.1;simp only[Bb]at ij jd;rw[ze]at hj hv;simp only[ve,ib,Bb]at hj hv;rw[ze]at hj hv;simp only[ib,Bb]at hj hv;have ix:min off cs.length=off:=O'
     have ji:min off vs.size=off:=O'
     rw[ix]at hj;rw[ji]at hv;rw[<-jd]at hv;split at hj
     ·rename_i h1
      rw[if_pos h1]at hv;split at hj
      ·rename_i h2
       rw[if_pos h2]at hv;rw[ea]at hj hv;rw[if_pos h2]at hj hv;exact hc.2 j c v hj hv
      ·rename_i h2
       rw[if_neg h2]at hv;exact fq.2 _ c v hj hv
     ·rename_i h1
      rw[if_neg h1]at hv;rw[Qa]at hj hv;exact hc.2 _ c v hj hv
   ·cases hf
 |[],_::_,_,_,_,hp,_,_=>by simp[WM]at hp
 |_::_,[],_,_,_,hp,_,_=>by simp[WM]at hp
theorem Ahx(hm:BJ B S w0 m)(hs:CM B S m ρ a.eval){z:w_}{dc:List (Nat×Nat×AL)}(h:A9 P num o.op (.build z dc)=true){cs:w_}(hf:fill z (dc.map λp=>(p.1,p.2.1,ρ p.2.2))=some cs) :
  CQ B S w0 P o a m (.val (.agg cs)):=by
 obtain⟨t,ps,o9,h1,h2⟩:=AkM h;obtain⟨i,v,hi,hz,he⟩:=tB h1;have key:∃df,P.built t (ps.map λp=>(p.1,a.eval p.2)).toList=some df/\CL B S m cs df.toList:=by
  unfold lG at h2;unfold Program.built;split at h2
  ·rename_i fs hu
   split at h2
   ·rename_i places hp
    obtain⟨df,h3,h4⟩:=nL _ hs ps.toList dc z cs v.cells h2 (X9 he) hf;refine⟨df,?_,h4⟩;simp only[hi,hu,hz,hp,pc];exact h3
   ·cases h2
  ·rename_i n e hu
   split at h2
   ·rename_i ie Hj
    obtain⟨df,h3,h4⟩:=nL _ hs ps.toList dc z cs v.cells h2 (X9 he) hf;refine⟨df,?_,h4⟩;simp only[hi,hu,hz,Hj,pc];exact h3
   ·cases h2
  ·cases h2
 obtain⟨df,h3,h4⟩:=key;refine E5 hm (u := .agg df) ?_ (.ca (by simpa using CA.agg cs df.toList h4));simp only[execOp,o9,Sem.run_bind];rw[run_build m.w t _ df h3];rfl
theorem Ti(size:Nat)(hs:CM B S m ρ a.eval):∀(ps:List (Nat×Operand))(dc:List AL)(k:Nat)(es:v_)(vs:Array Value),V1 k ps dc=true->dc.mapM (λx=>cellsOf (ρ x))=some es->(∀e∈es,e.length=size)->vs.size=(k+dc.length)*size ->
  ∃df,Instr.fill (λi=>some (i*size,size)) vs (ps.map λp=>(p.1,a.eval p.2))=some df/\df.size=vs.size/\(∀q,q<k*size->df[q]?=vs[q]?)/\∀i cs,es[i]?=some cs->∀j c,cs[j]?=some c->∃u,df[(k+i)*size+j]?=some u/\CC B S m c u
 |[],[],k,es,vs,_,fu,_,_=>by
  simp at fu;subst fu;exact⟨vs,rfl,rfl,λ_ _=>rfl,λi cs hi=>by simp at hi⟩
 |(i,x)::r,y::l,k,es,vs,he,fu,hz,hv=>by
  simp only[V1,ya,beq_iff_eq]at he;obtain⟨⟨rfl,h1⟩,h2⟩:=he;simp only[ub,qb,Eb]at fu;cases hcell:cellsOf (ρ y)with
  |none=>simp[hcell]at fu
  |some us=>
   cases fw:l.mapM (λx=>cellsOf (ρ x))with
   |none=>simp[hcell,fw]at fu
   |some es'=>
    simp[hcell,fw]at fu;subst fu;have fq:=eR (hs x y h1) hcell;have hus:us.length=size:=hz us Z';have x8:(a.eval x).cells.size=size:=by rw[<-hus,fq.1];simp
    simp only[Qc]at hv;have hle:i*size+size<=vs.size:=by rw[hv,show i+(l.length+1)=i+1+l.length by omega,Ea,Ea];omega
    have vq:=nS (i*size) (a.eval x).cells.toList 0 vs (by simp[x8];omega);generalize Iw:(a.eval x).cells.zipIdx.foldl (λcs (c,j)=>cs.setIfInBounds (i*size+j) c) vs=Fk;have ku:Fk.toList=vs.toList.take (i*size)++(a.eval x).cells.toList++vs.toList.drop (i*size+size):=by
     rw[<-Iw,<-uc];simpa [x8]using vq
    have Az:Fk.size=vs.size:=by
     have:=congrArg List.length ku
     simp[x8]at this;omega
    obtain⟨df,h3,h4,h5,h6⟩:=Ti size hs r l (i+1) es' Fk h2 fw (λe he=>hz e (by simp[he])) (by rw[Az,hv];congr 1;omega);refine⟨df,?_,h4.trans Az,λq hq=>?_,λi' cs x5 j c hj=>?_⟩
    ·simp only[Da,Instr.fill]
     rw[if_neg (by simp[x8];omega),Iw];exact h3
    ·rw[h5 q (by rw[Ea];omega)]
     have:Fk.toList[q]?=vs.toList[q]? := by
      rw[ku,Fc,Na K',ea,if_pos hq]
     simpa using this
    ·cases i' with
     |zero=>
      obtain rfl:us=cs:=by simpa using x5
      obtain⟨u,hu,ck⟩:=X0 fq hj;have fe:j<size:=by rw[<-hus];exact(zS hj).1
      refine⟨u,?_,ck⟩;rw[Ec,h5 _ (by rw[Ea];omega)];have:Fk.toList[i*size+j]?=some u:=by
       rw[ku,Fc,Ja K'];simp only[ib,Bb,show min (i*size) vs.size=i*size by omega,show i*size+j-i*size=j by omega];rw[Na (by simp[x8];omega)];exact hu
      simpa using this
     |succ i'=>
      obtain⟨u,hu,ck⟩:=h6 i' cs (by simpa using x5) j c hj;exact⟨u,by rw[show i+(i'+1)=i+1+i' by omega];exact hu,ck⟩
 |[],_::_,_,_,_,he,_,_,_=>by simp[V1]at he
 |_::_,[],_,_,_,he,_,_,_=>by simp[V1]at he
theorem Ua{s z n cap:Nat}(x6:s<EP){es:v_}{w':World}{g:Nat}{arr:Array Value}{e:TypeId}(hz:0<z)(hn:n<=cap)(hg:w'.heap[g]?=some (.cells arr e (0,0)))(hc:cap*z<=arr.size) :
  CV B S ⟨k6 m s (some g),m.own.put s ((m.own s).new ⟨z,es⟩),w'⟩ (.row s (m.own.j7 s) z 0 n) (.slice (some ⟨g,0,none⟩) n cap):=by
 refine .ca (.one (.row s (m.own.j7 s) z 0 n _ cap ?_ hz hn (λ_=>rfl) (λb' j9=>⟨?_,.inr ⟨g,arr,e,?_,Z',hg,by simpa using hc⟩⟩) x6))
 ·show _<Own.j7 _ s
  rw[KY];simp
 ·change Own.get _ s _=some b' at j9
  rw[GA,if_pos ⟨rfl,rfl⟩]at j9;obtain rfl:(⟨z,es⟩:DI)=b':=by simpa using j9
  rfl
 ·simp[k6]
theorem xD(hm:BJ B S w0 m)(s z n cap:Nat)(x6:s<EP)(es:v_)(vs:Array Value)(e:TypeId)(cz:0<z)(hn:n<=cap)(x8:cap*z<=vs.size)(hz:∀x∈es,x.length=z)
  (hc:∀i cs,es[i]?=some cs->∀j c,cs[j]?=some c->∃u,vs[i*z+j]?=some u/\CC B S m c u)
  (h:(execOp a.eval o).run P m.w = .ok (.value (.slice (some ⟨m.w.heap.size,0,none⟩) n cap)) (m.w.alloc (.cells vs e))) :
  CQ B S w0 P o a m (.new s ⟨z,es⟩ (λt=>.row s t z 0 n)):=by
 intro K Q hK;obtain⟨h1,h2⟩:=kZ hm s x6 ⟨z,es⟩ vs e hz hc;exact OG h (hK _ ⟨k6 m s (some m.w.heap.size),m.own.put s ((m.own s).new ⟨z,es⟩),m.w.alloc (.cells vs e)⟩ rfl h1 h2 (Ua x6 cz hn (heap_alloc_new _ _) x8))
theorem uZ(hs:CM B S m ρ a.eval){s a7:Nat}{dc:List AL}(h:A9 P num o.op (.b8 s a7 dc)=true){es:v_}(fu:dc.mapM (λx=>cellsOf (ρ x))=some es)(hz:∀e∈es,e.length=a7) :
  ∃(vs:Array Value) (e:TypeId),(execOp a.eval o).run P m.w = .ok (.value (.slice (some ⟨m.w.heap.size,0,none⟩) es.length es.length)) (m.w.alloc (.cells vs e))/\es.length*a7<=vs.size/\0<a7/\∀i cs,es[i]?=some cs->∀j c,cs[j]?=some c->∃u,vs[i*a7+j]?=some u/\CC B S m c u:=by
 obtain⟨t,n,ps,e,i,o9,hu,hi,x8,h0,hn,Qb,fc,hzero⟩:=AkL h;have hlen:es.length=n:=by
  rw[hn];clear h fc hzero hn;induction dc generalizing es with
  |nil=>simp at fu;subst fu;rfl
  |cons y l ih=>
   simp only[ub,qb,Eb]at fu;cases hcell:cellsOf (ρ y)with
   |none=>simp[hcell]at fu
   |some us=>
    cases fw:l.mapM (λx=>cellsOf (ρ x))with
    |none=>simp[hcell,fw]at fu
    |some es'=>
     simp[hcell,fw]at fu;subst fu;simp[ih fw (λe he=>hz e (by simp[he]))]
 obtain⟨zc,zy⟩:∃zc:Array Value,(n*a7=0/\zc = #[])\/(¬n*a7=0/\∃z,i.zero=some z/\zc=z.cells):=by
  by_cases q6:n*a7=0
  ·exact⟨#[],.inl ⟨q6,rfl⟩⟩
  ·rcases hzero with Ai|⟨z,ku,ka⟩
   ·simp[Ai]at q6
   ·exact⟨z.cells,.inr ⟨q6,z,ku,rfl⟩⟩
 have Jf:((De (n*a7)).map (zc[· % zc.size]!)).size=n*a7:=Z'
 obtain⟨df,h3,h4,_,h6⟩:=Ti a7 hs ps.toList dc 0 es _ fc fu hz (by rw[Jf,hn];simp);have w9:(execOp a.eval o).run P m.w = .ok (.value (.slice (some ⟨m.w.heap.size,0,none⟩) n n)) (m.w.alloc (.cells df e)):=by
  simp only[execOp,o9,Instr.buildSlice,Sem.run_bind,run_underlying hu,Result.andThen_ok,sizeOf,typeInfo,run_program,hi,Sem.run_pure,x8];simp only[show¬(n*a7>2^24)from O',if_false,Sem.run_bind,Sem.run_pure,Result.andThen_ok];rcases zy with⟨Ai,rfl⟩|⟨Ai,z,ku,rfl⟩
  ·simp only[Ai,if_true,Sem.run_bind,Sem.run_pure,Result.andThen_ok,pc]
   rw[Ai]at h3;rw[h3];rfl
  ·simp only[Ai,if_false,Sem.run_bind,Sem.run_pure,Result.andThen_ok,pc,zeroValue,typeInfo,run_program,hi,ku]
   rw[h3];rfl
 rw[hlen];exact⟨df,e,w9,by rw[h4,Jf];exact ga _,tc h0,λi cs x5 j c hj=>by simpa using h6 i cs x5 j c hj⟩
theorem Ahw(hm:BJ B S w0 m)(hs:CM B S m ρ a.eval){s a7:Nat}(x6:s<EP){dc:List AL}(h:A9 P num o.op (.b8 s a7 dc)=true){es:v_}(fu:dc.mapM (λx=>cellsOf (ρ x))=some es)(hz:∀e∈es,e.length=a7) :
  CQ B S w0 P o a m (.new s ⟨a7,es⟩ (λt=>.row s t a7 0 es.length)):=by
 obtain⟨vs,e,h1,h2,h3,h4⟩:=uZ hs h fu hz;exact xD hm s a7 _ _ x6 es vs e h3 (ga _) h2 hz h4 h1
end
end Go.e9

namespace Go.e9
open Go.RowKit
section
variable {B:Nat} {S:Nat->Prop} {w0:GG} {m:M}
variable {P:Program} {num:Nat->Nat} {o:Oper} {a:Act} {ρ:AL->AV}
theorem eP{x:AV}{v:Value}(h:CV B S m x v)(h1:x ≠ .any)(h2:∀cs,x ≠ .agg cs)(h3:∀cs,x ≠ .j5 cs)(h4:∀p f g cs,x ≠ .fn p f g cs:=by intros;simp):CC B S m x v:=by
 cases h with
 |any=>exact absurd rfl h1
 |j5 as=>exact absurd rfl (h3 as)
 |ca h=>cases h with
  |one h=>exact h
  |agg cs=>exact absurd rfl (h2 cs)
  |fn p f g cs=>exact absurd rfl (h4 p f g cs)
  |um f g cs=>exact absurd rfl (h4 true f g cs)
theorem X4{s t i j:Nat}{v:Value}(h:CV B S m (.ptr s t i j) v):∃ad,v = .pointer (some ad)/\t<m.own.j7 s/\∀b,m.own.get s t=some b->∃g,m.ν s t=some g/\ad=⟨g,i*b.a7+j,none⟩:=by
 cases eP h Z' Z' Z' with
 |rd h=>cases h
 |ptr s t i j ad ht h'=>exact⟨ad,rfl,ht,h'⟩
theorem lP{cs:w_}{v:Value}(h:CV B S m (.z7 cs) v):∃(b o:Nat) (u:Nat->Value) (l:Bool),v = .pointer (some ⟨b,o,none⟩)/\(cs≠[]->safe B S m l b)/\(∀j c,cs[j]?=some c->m.w.cell? ⟨b,o+j,none⟩=some (u j))/\(∀j c,cs[j]?=some c->Rd m.w (safe B S m) c (u j)):=by
 cases eP h Z' Z' Z' with
 |rd h=>cases h
 |z7 _ b o u l h1 h2 h3=>exact⟨b,o,u,l,rfl,h1,h2,h3⟩
theorem QX{s t z off len:Nat}{v:Value}(h:CV B S m (.row s t z off len) v):∃(ad:Option Addr) (cap:Nat),v = .slice ad len cap/\t<m.own.j7 s/\0<z/\len<=cap/\(0<len->ad.isSome=true) /\
  ∀b,m.own.get s t=some b->b.a7=z/\((len=0/\cap=0)\/∃g arr e,m.ν s t=some g/\ad=some ⟨g,off*z,none⟩/\m.w.heap[g]?=some (.cells arr e (0,0))/\(off+cap)*z<=arr.size):=by
 cases eP h Z' Z' Z' with
 |rd h=>cases h
 |row s t z off len ad cap ht cz jz ha h'=>exact⟨ad,cap,rfl,ht,cz,jz,ha,h'⟩
theorem eT{l:Bool}{es:v_}{v:Value}(h:CV B S m (.sl l es) v):Rd m.w (safe B S m) (.sl l es) v:=by
 cases eP h Z' Z' Z' with
 |rd h=>exact h
theorem aD{s t i j:Nat}{v:Value}(h:CV B S m (.ptr s t i j) v):s<EP:=by
 cases h with
 |ca h=>cases h with
  |one h=>cases h with
   |rd h=>cases h
   |ptr _ _ _ _ _ _ _ hs=>exact hs
theorem VW{s t z off len:Nat}{v:Value}(h:CV B S m (.row s t z off len) v):s<EP:=by
 cases h with
 |ca h=>cases h with
  |one h=>cases h with
   |rd h=>cases h
   |row _ _ _ _ _ _ _ _ _ _ _ _ hs=>exact hs
theorem AhZ(hm:BJ B S w0 m)(hs:CM B S m ρ a.eval){x':AL}(h:A9 P num o.op (.mg x')=true){s t i j:Nat}(hx:ρ x' = .ptr s t i j):CQ B S w0 P o a m (.val (.ptr s t i j)):=by
 obtain⟨x,o9,h1⟩:=AkZ h;have hc:=hx▸hs x x' h1;obtain⟨ad,hv,_,_⟩:=X4 hc;refine E5 hm (u := .pointer (some ad)) ?_ (hv▸hc);simp[execOp,o9,hv]
theorem AhH(hm:BJ B S w0 m)(hs:CM B S m ρ a.eval){x':AL}{off:Nat}(h:A9 P num o.op (.o4 x' off)=true){s t i j:Nat}(hx:ρ x' = .ptr s t i j):CQ B S w0 P o a m (.val (.ptr s t i (j+off))):=by
 obtain⟨ty,x,f,fs,fd,inf,o9,h1,hu,hf,ho,hi,x8⟩:=Vm h;obtain⟨ad,hv,ht,hb⟩:=X4 (hx▸hs x x' h1);refine E5 hm (u := .pointer (some (ad.add off))) ?_ (.ca (.one (.ptr s t i (j+off) _ ht (λb j9=>?_) (aD (hx▸hs x x' h1)))))
 ·simp[execOp,o9,hv,Instr.fieldAt,run_underlying hu,hf,Instr.sureAddr,fieldPlace,sizeOf,typeInfo,hi,x8,ho]
 ·obtain⟨g,hg,rfl⟩:=hb b j9
  exact⟨g,hg,by rw[JA];simp;omega⟩
theorem AhG(hm:BJ B S w0 m)(hs:CM B S m ρ a.eval){x':AL}{off:Nat}(h:A9 P num o.op (.o4 x' off)=true){cs:w_}(hx:ρ x' = .z7 cs):CQ B S w0 P o a m (.val (.z7 (cs.drop off))):=by
 obtain⟨ty,x,f,fs,fd,inf,o9,h1,hu,hf,ho,hi,x8⟩:=Vm h;obtain⟨b,ob,u,l,hv,hR,hc,hr⟩:=lP (hx▸hs x x' h1);refine E5 hm (u := .pointer (some ⟨b,ob+off,none⟩)) ?_ (.ca (.one (.z7 _ b (ob+off) (λj=>u (off+j)) l (λq6=>hR (λe=>q6 (by simp[e]))) (λj c hj=>?_) (λj c hj=>?_))))
 ·simp[execOp,o9,hv,Instr.fieldAt,run_underlying hu,hf,Instr.sureAddr,fieldPlace,sizeOf,typeInfo,hi,x8,ho,JA]
 ·rw[Qa]at hj
  rw[Ld];exact hc _ c hj
 ·rw[Qa]at hj
  exact hr _ c hj
theorem iO{agg:Bool}{cs:w_}{v:AV}(h:NC agg cs=some v){vs:List Value}(hc:CL B S m cs vs):CV B S m v (if agg then .agg vs.toArray else vs.getD 0 undef)/\(agg=false->vs.length=1):=by
 unfold NC at h;cases agg with
 |true=>
  obtain rfl:AV.agg cs=v:=by simpa using h
  exact⟨.ca (.agg cs vs hc),Z'⟩
 |false=>
  simp only[Ga,if_false]at h;split at h
  ·rename_i c
   obtain rfl:c=v:=by simpa using h
   obtain⟨u,hu,ck⟩:=X0 hc (j:=0) (c:=c) rfl;refine⟨?_,λ_=>by rw[<-hc.1];rfl⟩;simp only[Ga,if_false,Me,hu,Gc];exact .ca (.one ck)
  ·cases h
theorem Am1(t:TypeId)(agg:Bool)(inf:TypeInfo)(kj:∀w,(isAgg t).run P w = .ok agg w)(hi:P.info? t=some inf)(vs:List Value)(off n:Nat)(hn:inf.size=n)(hle:off+n<=vs.length)(h1:agg=false->n=1)(w:World) :
  (Go.part t vs.toArray off).run P w = .ok (if agg then .agg ((vs.drop off).take n).toArray else((vs.drop off).take n).getD 0 undef) w:=by
 unfold Go.part;rw[Sem.run_bind,kj w];cases agg with
 |true=>simp[sizeOf,typeInfo,hi,hn,List.extract_eq_take_drop]
 |false=>
  have k7:off<vs.length:=by have:=h1 rfl;omega
  simp[k7,h1 rfl]
theorem AhI(hm:BJ B S w0 m)(hs:CM B S m ρ a.eval){x':AL}{off n:Nat}{agg:Bool}(h:A9 P num o.op (.og x' off n agg)=true){cs ds:w_}{v:AV}(hx:ρ x' = .agg cs)(hp:part cs off n=some ds)(hv:NC agg ds=some v) :
  CQ B S w0 P o a m (.val v):=by
 obtain⟨ty,x,f,fs,fd,inf,o9,h1,hu,hf,ho,hi,x8,kj,h0⟩:=AkT h;obtain⟨vs,de,u6⟩:=Ag5 (hx▸hs x x' h1);unfold e9.part at hp;split at hp
 ·rename_i hle
  obtain rfl:(cs.drop off).take n=ds:=by simpa using hp
  obtain⟨y7,mb⟩:=iO hv (AgF u6 off n);have hl:=u6.1;have vj:agg=false->n=1:=λe=>by have:=mb e;simp at this;omega
  refine E5 hm ?_ y7;simp only[execOp,o9,Sem.run_bind,Instr.field,run_underlying hu,Result.andThen_ok,hf,de,asAgg,Sem.run_pure,ho];rw[Am1 fd.type agg inf kj hi vs off n x8 O' vj];rfl
 ·cases hp
theorem AhJ(hm:BJ B S w0 m)(hs:CM B S m ρ a.eval){len a7:Nat}{x' i':AL}(h:A9 P num o.op (.u4 (some len) a7 x' i')=true){k:IntKind}{n:Int}{s t i0 j:Nat}(x5:ρ i' = .int k n)(hx:ρ x' = .ptr s t i0 j)(h0:0<=n)(hn:n<len) :
  CQ B S w0 P o a m (.val (.ptr s t i0 (j+n.toNat*a7))):=by
 obtain⟨ty,x,i,e,inf,o9,h1,h2,hi,x8,eo⟩:=gR h;rcases eo with⟨ui,hl,hu,k7⟩|⟨hl,_⟩
 ·obtain rfl:len=ui:=by simpa using hl
  obtain⟨ad,hv,ht,hb⟩:=X4 (hx▸hs x x' h1);have yb:=JE (x5▸hs i i' h2);refine E5 hm (u := .pointer (some (ad.add (n.toNat*a7)))) ?_ (.ca (.one (.ptr s t i0 (j+n.toNat*a7) _ ht (λb j9=>?_) (aD (hx▸hs x x' h1)))))
  ·simp[execOp,o9,hv,yb,Instr.indexAt,asIntOf,run_underlying hu,Instr.sureAddr,sizeOf,typeInfo,hi,x8,h0,hn]
  ·obtain⟨g,hg,rfl⟩:=hb b j9
   exact⟨g,hg,by rw[JA];simp;omega⟩
 ·cases hl
theorem AhK(hm:BJ B S w0 m)(hs:CM B S m ρ a.eval){len a7:Nat}{x' i':AL}(h:A9 P num o.op (.u4 (some len) a7 x' i')=true){k:IntKind}{n:Int}{cs:w_}(x5:ρ i' = .int k n)(hx:ρ x' = .z7 cs)(h0:0<=n)(hn:n<len) :
  CQ B S w0 P o a m (.val (.z7 (cs.drop (n.toNat*a7)))):=by
 obtain⟨ty,x,i,e,inf,o9,h1,h2,hi,x8,eo⟩:=gR h;rcases eo with⟨ui,hl,hu,k7⟩|⟨hl,_⟩
 ·obtain rfl:len=ui:=by simpa using hl
  obtain⟨b,ob,u,l,hv,hR,hc,hr⟩:=lP (hx▸hs x x' h1);have yb:=JE (x5▸hs i i' h2);refine E5 hm (u := .pointer (some ⟨b,ob+n.toNat*a7,none⟩)) ?_ (.ca (.one (.z7 _ b (ob+n.toNat*a7) (λj=>u (n.toNat*a7+j)) l (λq6=>hR (λe=>q6 (by simp[e]))) (λj c hj=>?_) (λj c hj=>?_))))
  ·simp[execOp,o9,hv,yb,Instr.indexAt,asIntOf,run_underlying hu,Instr.sureAddr,sizeOf,typeInfo,hi,x8,h0,hn,JA]
  ·rw[Qa]at hj
   rw[Ld];exact hc _ c hj
  ·rw[Qa]at hj
   exact hr _ c hj
 ·cases hl
theorem Xj(ty e:TypeId)(inf:TypeInfo)(hu:P.underlying ty=some (.slice e))(hi:P.info? e=some inf)(ad:Addr)(len cap:Nat)(k:IntKind)(n:Int)(h0:0<=n)(hn:n<len)(w:World) :
  (Instr.indexAt ty (.slice (some ad) len cap) (.int k n)).run P w = .ok (.pointer (some (ad.add (n.toNat*inf.size)))) w:=by
 simp[Instr.indexAt,asIntOf,run_underlying hu,sizeOf,typeInfo,hi,h0,hn]
theorem AhL(hm:BJ B S w0 m)(hs:CM B S m ρ a.eval){a7:Nat}{x' i':AL}(h:A9 P num o.op (.u4 none a7 x' i')=true){k:IntKind}{n:Int}{s t z off len:Nat}(x5:ρ i' = .int k n)(hx:ρ x' = .row s t z off len)(h0:0<=n)(hn:n<len)(hz:z=a7) :
  CQ B S w0 P o a m (.val (.ptr s t (off+n.toNat) 0)):=by
 obtain⟨ty,x,i,e,inf,o9,h1,h2,hi,x8,eo⟩:=gR h;rcases eo with⟨_,hl,_⟩|⟨_,hu,_⟩
 ·cases hl
 ·obtain⟨ad,cap,hv,ht,cz,jz,ha,hb⟩:=QX (hx▸hs x x' h1)
  have yb:=JE (x5▸hs i i' h2);obtain⟨Dx,rfl⟩:=Ma.1 (ha O');refine E5 hm (u := .pointer (some (Dx.add (n.toNat*a7)))) ?_ (.ca (.one (.ptr s t (off+n.toNat) 0 _ ht (λb j9=>?_) (VW (hx▸hs x x' h1)))))
  ·simp only[execOp,o9,hv,yb,Sem.run_bind]
   rw[Xj ty e inf hu hi Dx len cap k n h0 hn,x8];rfl
  ·obtain⟨nr,eo⟩:=hb b j9
   rcases eo with⟨nc,_⟩|⟨g,arr,e',hg,ki,_,_⟩
   ·omega
   ·obtain rfl:Dx=⟨g,off*z,none⟩:=by simpa using ki
    exact⟨g,hg,by rw[JA,nr,<-hz,Ea];rfl⟩
theorem AhM(hm:BJ B S w0 m)(hs:CM B S m ρ a.eval){a7:Nat}{x' i':AL}(h:A9 P num o.op (.u4 none a7 x' i')=true){k:IntKind}{n:Int}{l:Bool}{es:v_}{cs:w_}(x5:ρ i' = .int k n)(hx:ρ x' = .sl l es)(h0:0<=n)(hn:es[n.toNat]?=some cs)(hz:cs.length=a7) :
  CQ B S w0 P o a m (.val (.z7 cs)):=by
 obtain⟨ty,x,i,e,inf,o9,h1,h2,hi,x8,eo⟩:=gR h;rcases eo with⟨_,hl,_⟩|⟨_,hu,_⟩
 ·cases hl
 ·have ko:=eT (hx▸hs x x' h1)
  have yb:=JE (x5▸hs i i' h2);have k7:n.toNat<es.length:=(zS hn).1;generalize de:a.eval x=v at ko;cases ko with
  |jl=>simp at k7
  |sl _ _ b ob ag cap u q6 hp hR cj gu hc hr=>
   have Je:ag=a7:=by
    rw[<-hz];exact(gu cs (zM hn)).symm
   subst Je;refine E5 hm (u := .pointer (some ⟨b,ob+n.toNat*ag,none⟩)) ?_ (.ca (.one (.z7 _ b (ob+n.toNat*ag) (u n.toNat) l (λ_=>hR) (λj c hj=>?_) (λj c hj=>hr _ cs hn j c hj))))
   ·simp only[execOp,o9,de,yb,Sem.run_bind]
    rw[Xj ty e inf hu hi ⟨b,ob,none⟩ es.length cap k n h0 O',x8,JA];rfl
   ·rw[Ld]
    exact hc _ cs hn j c hj
end
end Go.e9

namespace Go.e9
open Go.RowKit
section
variable {B:Nat} {S:Nat->Prop} {w0:GG} {m:M}
variable {P:Program} {num:Nat->Nat} {o:Oper} {a:Act} {ρ:AL->AV}
theorem rG(t:TypeId)(agg:Bool)(n:Nat)(kj:∀w,(isAgg t).run P w = .ok agg w)(hn:if agg then∃i,P.info? t=some i/\i.size=n else n=1)(ad:Addr)(vs:List Value)(hl:vs.length=n)(w:World)
  (hc:∀q v,vs[q]?=some v->w.cell? (ad.add q)=some v):(Instr.loadAt t (.pointer (some ad))).run P w = .ok (if agg then .agg vs.toArray else vs.getD 0 undef) w:=by
 unfold Instr.loadAt loadVar;simp only[Instr.sureAddr,Sem.run_bind,Sem.run_pure,Result.andThen_ok,kj w];cases agg with
 |true=>
  simp only[if_true]at hn;obtain⟨i,hi,hs⟩:=hn;have:=run_loadCells_list (P:=P) w ad vs hc
  simp[sizeOf,typeInfo,hi,hs,<-hl,this]
 |false=>
  simp only[Ga,if_false]at hn⊢;have k7:0<vs.length:=O'
  have h0:=hc 0 vs[0] (zE k7);have Ai:w.cell? ad=some vs[0]:=by simpa [Addr.add]using h0
  simp[load,Sem.run,Ai,k7]
theorem Yk(hm:BJ B S w0 m){s t i j n:Nat}(x6:s<EP){cs:w_}(h:m.own.rq s t i j n=some cs):∃b g arr e,m.own.get s t=some b/\(0<n->m.ν s t=some g/\m.w.heap[g]?=some (.cells arr e (0,0))) /\
  ∃vs:List Value,vs.length=n/\CL B S m cs vs/\∀q v,vs[q]?=some v->arr[i*b.a7+j+q]?=some v:=by
 unfold Own.rq at h;cases hb:m.own.get s t with
 |none=>simp[hb]at h
 |some b=>
  simp only[hb]at h;cases he:b.es[i]? with
  |none=>simp[he]at h
  |some ds=>
   simp only[he,part]at h;split at h
   ·rename_i hle
    obtain rfl:(ds.drop j).take n=cs:=by simpa using h
    obtain⟨hz,cq⟩:=hm.my hb x6;cases hν:m.ν s t with
    |none=>
     rw[hν]at cq;rw[cq]at he;simp at he
    |some g=>
     rw[hν]at cq;obtain⟨hB,arr,e,hh,ck⟩:=cq;have x8:∀q,q<n->∃u,arr[i*b.a7+j+q]?=some u:=λq hq=>by
      have k7:j+q<ds.length:=O'
      obtain⟨u,hu,_⟩:=ck i ds he (j+q) ds[j+q] (zE k7);exact⟨u,by rw[<-hu];congr 1;omega⟩
     refine⟨b,g,arr,e,rfl,λ_=>⟨rfl,hh⟩,(arr.toList.drop (i*b.a7+j)).take n,?_,⟨?_,?_⟩,?_⟩
     ·rw[ib,Cc]
      rcases rb n with h0|h0
      ·omega
      ·obtain⟨u,hu⟩:=x8 (n-1) O'
       have:=(xa.1 hu).1
       simp;omega
     ·rw[ib,ib,Cc,Cc]
      rcases rb n with h0|h0
      ·omega
      ·obtain⟨u,hu⟩:=x8 (n-1) O'
       have:=(xa.1 hu).1
       simp;omega
     ·intro q c v hq hv
      rw[ea]at hq hv;split at hq
      ·rename_i Ib
       rw[if_pos Ib]at hv;rw[Qa]at hq hv;obtain⟨u,hu,hc⟩:=ck i ds he (j+q) c hq;have:some u=some v:=by
        rw[<-hu,<-hv];simp only[Hb];congr 1;omega
       obtain rfl:u=v:=by simpa using this
       exact hc
      ·cases hq
     ·intro q v hv
      rw[ea]at hv;split at hv
      ·rw[Qa]at hv
       simpa using hv
      ·cases hv
   ·cases h
theorem VO{w:World}{g p:Nat}{arr:Array Value}{e:TypeId}(h:w.heap[g]?=some (.cells arr e (0,0))):w.cell? ⟨g,p,none⟩=arr[p]? := by
 simp[World.cell?,h]
theorem AhO(hm:BJ B S w0 m)(hs:CM B S m ρ a.eval){agg:Bool}{n:Nat}{x':AL}(h:A9 P num o.op (.ld agg n x')=true){s t i j:Nat}{cs:w_}{v:AV}(hx:ρ x' = .ptr s t i j)(hl:m.own.rq s t i j n=some cs)(hv:NC agg cs=some v) :
  CQ B S w0 P o a m (.val v):=by
 obtain⟨ty,x,o9,h1,kj,hn⟩:=Vn h;obtain⟨ad,de,ht,hb⟩:=X4 (hx▸hs x x' h1);obtain⟨b,g,arr,e,o5,hg,vs,mf,u6,iq⟩:=Yk hm (aD (hx▸hs x x' h1)) hl;obtain⟨y7,_⟩:=iO hv u6;refine E5 hm ?_ y7;simp only[execOp,o9,Sem.run_bind,de];rw[rG ty agg n kj hn ad vs mf m.w (λq u hq=>?_)]
 ·rfl
 ·have k7:q<vs.length:=(zS hq).1
  obtain⟨yz,jo⟩:=hg O';obtain⟨g',di,rfl⟩:=hb b o5;obtain rfl:g=g':=by rw[yz]at di;simpa using di
  rw[JA,VO jo];exact iq q u hq
theorem AhN(hm:BJ B S w0 m)(hs:CM B S m ρ a.eval){agg:Bool}{n:Nat}{x':AL}(h:A9 P num o.op (.ld agg n x')=true){cs ds:w_}{v:AV}(hx:ρ x' = .z7 cs)(hl:part cs 0 n=some ds)(hv:NC agg ds=some v) :
  CQ B S w0 P o a m (.val v):=by
 obtain⟨ty,x,o9,h1,kj,hn⟩:=Vn h;obtain⟨b,ob,u,l,de,hR,hc,hr⟩:=lP (hx▸hs x x' h1);unfold e9.part at hl;split at hl
 ·rename_i hle
  obtain rfl:(cs.drop 0).take n=ds:=by simpa using hl
  have u6:CL B S m ((cs.drop 0).take n) ((dd n).map u):=by
   refine⟨by simp;omega,λq c v' hq iy=>?_⟩;simp only[List.drop_zero,ea]at hq;split at hq
   ·rename_i Ib
    simp[Ib]at iy;subst iy;exact .rd (hr q c hq)
   ·cases hq
  obtain⟨y7,_⟩:=iO hv u6;refine E5 hm ?_ y7;simp only[execOp,o9,Sem.run_bind,de];rw[rG ty agg n kj hn ⟨b,ob,none⟩ ((dd n).map u) Z' m.w (λq w' hq=>?_)]
  ·rfl
  ·have Ib:q<n:=by have:=(zS hq).1;simpa using this
   simp[Ib]at hq;subst hq;rw[JA];exact hc q cs[q] (zE O')
 ·cases hl
theorem rY{α:Type}(l:List α)(off:Nat)(vs:List α)(h:off+vs.length<=l.length)(q:Nat):(l.take off++vs++l.drop (off+vs.length))[q]?=if q<off then l[q]? else if q<off+vs.length then vs[q-off]? else l[q]? := by
 rw[Fc];by_cases h1:q<off
 ·rw[if_pos h1,Na K',ea,if_pos h1]
 ·rw[if_neg h1,Ja K']
  have e1:(l.take off).length=off:=by simp;omega
  rw[e1];by_cases h2:q<off+vs.length
  ·rw[if_pos h2,Na O']
  ·rw[if_neg h2,Ja O',Qa]
   congr 1;omega
theorem uT(hm:BJ B S w0 m){g:Nat}(hB:B<=g)(arr:Array Value):D7 w0.D B w0.w (m.w.setRow g arr) :=
 hm.below.trans ⟨⟨rfl,rfl,rfl,Z',λk hk=>setRow_other _ _ _ _ O'⟩,λ_=>ga _⟩
theorem xG(hm:BJ B S w0 m)(hs:CM B S m ρ a.eval){n:Nat}{x' v':AL}(h:A9 P num o.op (.st n x' v')=true){s t i j:Nat}{vs:w_}{q8:Own}(hx:ρ x' = .ptr s t i j)(hv:cellsOf (ρ v')=some vs)(hn:vs.length=n)(o7:m.own.py s t i j vs=some q8) :
  CQ B S w0 P o a m (.cn (.j5 []) q8):=by
 obtain⟨ty,x,v,inf,o9,h1,h2,hi,x8⟩:=Ak2 h;obtain⟨ad,de,ht,hb⟩:=X4 (hx▸hs x x' h1);have u6:=eR (hs v v' h2) hv;unfold Own.py at o7;cases o5:m.own.get s t with
 |none=>simp[o5]at o7
 |some b=>
  simp only[o5]at o7;cases he:b.es[i]? with
  |none=>simp[he]at o7
  |some cs=>
   simp only[he]at o7;split at o7
   ·rename_i hle
    obtain rfl:=na o7;have x6:=aD (hx▸hs x x' h1);obtain⟨hz,cq⟩:=hm.my o5 x6;obtain⟨g,hg,rfl⟩:=hb b o5;rw[hg]at cq;obtain⟨hB,arr,e,hh,ck⟩:=cq;have Oa:cs.length=b.a7:=hz cs (zM he);have hlen:(a.eval v).cells.toList.length=vs.length:=u6.1.symm;have ic:i<b.es.length:=(zS he).1;have Dc:i*b.a7+j+vs.length<=arr.size:=by
     rcases rb vs.length with h0|h0
     ·rcases rb j with Em|Em
      ·rw[h0,Em]
       rcases rb i with ml|ml
       ·rw[ml];omega
       ·rcases rb b.a7 with cz|cz
        ·rw[cz];omega
        ·have hi1:i-1<b.es.length:=O'
         have ij:(b.es[i-1]).length=b.a7:=hz _ (eb hi1);obtain⟨u,hu,_⟩:=ck (i-1) _ (zE hi1) (b.a7-1) _ (zE O');have:=(xa.1 hu).1
         have e1:(i-1)*b.a7+b.a7=i*b.a7:=by
          rw[<-zb];congr 1;omega
         omega
      ·obtain⟨u,hu,_⟩:=ck i cs he (j-1) cs[j-1] (zE O')
       have:=(xa.1 hu).1
       omega
     ·obtain⟨u,hu,_⟩:=ck i cs he (j+vs.length-1) cs[j+vs.length-1] (zE O')
      have:=(xa.1 hu).1
      omega
    have mb:=AgE u6;have xe:=run_storeCells_at (P:=P) g (i*b.a7+j) e (a.eval v).cells.toList 0 arr m.w hh (by rw[hlen];omega) mb;generalize om:(arr.toList.take (i*b.a7+j+0)++(a.eval v).cells.toList++arr.toList.drop (i*b.a7+j+0+(a.eval v).cells.toList.length)).toArray=af at xe;have Aq:∀p,af[p]?=if p<i*b.a7+j then arr[p]? else if p<i*b.a7+j+vs.length then(a.eval v).cells.toList[p-(i*b.a7+j)]? else arr[p]? := λp=>by
     rw[<-om];simp only[Ec,Gd];rw[rY _ _ _ (by rw[hlen];simpa using Dc),hlen];simp only[Hb]
    have rm:af.size=arr.size:=by
     rw[<-om];simp[hlen];have:=hlen
     simp at this;omega
    obtain⟨k1,k2⟩:=Zz hm s t x6 b ⟨b.a7,b.es.set i (splice cs j vs)⟩ o5 g hg arr af e hh rfl (λy hy=>by
      rcases List.mem_or_eq_of_mem_set hy with hy|hy
      ·exact hz y hy
      ·rw[hy,<-Oa];simp[splice];omega) rm
     (λi' gj x5 q c hq=>by
      show∃u,af[i'*b.a7+q]?=some u/\_;change (b.es.set i (splice cs j vs))[i']?=some gj at x5;by_cases hii:i'=i
      ·subst hii
       rw[List.getElem?_set_self ic]at x5;obtain rfl:splice cs j vs=gj:=by simpa using x5
       unfold splice at hq;rw[rY _ _ _ hle]at hq;rw[Aq];by_cases yc:q<j
       ·rw[if_pos yc]at hq
        rw[if_pos O'];exact ck i' cs he q c hq
       ·rw[if_neg yc]at hq
        rw[if_neg O'];by_cases Eu:q<j+vs.length
        ·rw[if_pos Eu]at hq
         rw[if_pos O'];obtain⟨u,hu,fq⟩:=X0 u6 hq;exact⟨u,by rw[<-hu];congr 1;omega,fq⟩
        ·rw[if_neg Eu]at hq
         rw[if_neg O'];exact ck i' cs he q c hq
      ·rw[List.getElem?_set_ne O']at x5
       have Pn:q<b.a7:=by
        rw[<-hz gj (zM x5)];exact(zS hq).1
       obtain⟨u,hu,fq⟩:=ck i' gj x5 q c hq;refine⟨u,?_,fq⟩;rw[Aq,<-hu];rcases me hii with k7|nb
       ·have:(i'+1)*b.a7<=i*b.a7:=zR _ k7
        rw[zb]at this;rw[if_pos O']
       ·have:(i+1)*b.a7<=i'*b.a7:=zR _ nb
        rw[zb]at this;rw[if_neg O',if_neg O'])
     (m.w.setRow g af) (uT hm hB af) Z' (λk hk=>setRow_other _ _ _ _ hk) (setRow_heap _ _ _ _ _ _ hh)
    intro K Q hK;refine Zc (w':=m.w.setRow g af) ?_ (hK undef ⟨m.ν,_,m.w.setRow g af⟩ rfl k1 k2 Ux);have Qd:(a.eval v).cells.size=inf.size:=by rw[x8,<-hn,<-hlen];simp
    simp only[execOp,o9,de,Instr.storeAt,storeVar,Instr.sureAddr,Sem.run_bind,Sem.run_pure,Result.andThen_ok,sizeOf,typeInfo,run_program,hi];rw[if_neg (by simpa using Qd)];simp only[Sem.run_bind,Sem.run_pure,Result.andThen_ok,xe]
   ·cases o7
theorem AhR(hm:BJ B S w0 m)(hs:CM B S m ρ a.eval){s a7 bytes:Nat}(x6:s<EP){zero:w_}{l' c':AL}(h:A9 P num o.op (.mk s a7 bytes zero l' c')=true){kl kc:IntKind}{l c:Int}(hl:ρ l' = .int kl l)(hc:ρ c' = .int kc c)(h0:0<=l)(jz:l<=c)(hb:c*bytes<=E7)(Fu:c<=9223372036854775807)(hz:zero.length=a7) :
  CQ B S w0 P o a m (.new s ⟨a7,List.replicate l.toNat zero⟩ (λt=>.row s t a7 0 l.toNat)):=by
 obtain⟨ty,lx,cx,e,inf,z,o9,h1,h2,hu,hi,x8,vo,cz,gu,q6⟩:=AkW h;have el:=JE (hl▸hs lx l' h1);have ec:=JE (hc▸hs cx c' h2);have u6:CL B S m zero z.cells.toList:=X9 gu;have hzs:z.cells.size=a7:=by rw[<-hz,u6.1];simp
 refine xD hm s a7 l.toNat c.toNat x6 _ (madeCells z.cells (c.toNat*inf.size)) e (tc q6) O' (by rw[size_madeCells,x8];exact ga _) (λx hx=>by rw[(List.mem_replicate.1 hx).2,hz]) (λi cs x5 j c1 hj=>?_) ?_
 ·rw[List.getElem?_replicate]at x5
  split at x5
  ·rename_i ic
   obtain rfl:zero=cs:=by simpa using x5
   obtain⟨u,lk,fq⟩:=X0 u6 hj;refine⟨u,?_,fq⟩;have fe:j<a7:=by rw[<-hz];exact(zS hj).1
   have k7:i*a7+j<c.toNat*inf.size:=by
    rw[x8];have h3:(i+1)*a7<=c.toNat*a7:=zR _ O';rw[zb]at h3;omega
   have Cx:(i*a7+j)%z.cells.size=j:=by rw[hzs,Hd,Od,Le fe]
   have vd:z.cells[j]?=some u:=by simpa using lk
   have hjs:j<z.cells.size:=(xa.1 vd).1;have qh:z.cells[j]=u:=(xa.1 vd).2;simp[madeCells,k7,Cx,hjs,qh]
  ·cases x5
 ·have:=run_make (P:=P) m.w ty e inf z hu hi cz kl kc l c h0 jz (by rw[vo,Int.mul_comm];simp only[E7]at hb;omega) Fu
  simp only[execOp,o9,el,ec,Sem.run_bind,this,Result.andThen_ok,Sem.run_pure]
theorem AhF(hm:BJ B S w0 m)(hs:CM B S m ρ a.eval){x':AL}{i:Nat}(h:A9 P num o.op (.ext x' i)=true){vs:w_}{v:AV}(hx:ρ x' = .j5 vs)(hv:vs[i]?=some v):CQ B S w0 P o a m (.val v):=by
 obtain⟨x,o9,h1⟩:=AkS h;obtain⟨us,de,hl,hc⟩:=lR (hx▸hs x x' h1);have k7:i<us.length:=by rw[<-hl];exact(zS hv).1
 refine E5 hm (u:=us[i]) ?_ (.ca (hc i v us[i] hv (zE k7)));simp[execOp,o9,de,Instr.extract,k7]
theorem AhP(hm:BJ B S w0 m)(hs:CM B S m ρ a.eval){x':AL}(h:A9 P num o.op (.len x')=true){n:Nat}(hx:RA (ρ x')=some n):CQ B S w0 P o a m (.val (.int .i64 n)):=by
 obtain⟨x,t,e,o9,h1,hu⟩:=AkV h;have y7:=hs x x' h1;obtain⟨ad,cap,de⟩:∃ad cap,a.eval x = .slice ad n cap:=by
  generalize ρ x'=av at*;cases av with
  |sl l es=>
   have hr:=eT y7;simp only[RA,za]at hx;subst hx;generalize a.eval x=v at*;cases hr with
   |jl=>exact⟨_,_,rfl⟩
   |sl=>exact⟨_,_,rfl⟩
  |row s t z off len=>
   obtain⟨ad,cap,hv,_⟩:=QX y7;simp only[RA,za]at hx;subst hx;exact⟨ad,cap,hv⟩
  |nil=>
   simp only[RA,za]at hx;subst hx;exact⟨_,_,VV y7⟩
  |_=>simp[RA]at hx
 refine E5 hm (u := .int .i64 n) ?_ (S3 _ _);simp[execOp,o9,resolve,invoke,builtin,de,Builtin.len_,run_underlying hu,goInt]
theorem R9(hs:CM B S m ρ a.eval):∀{xs:List Operand}{ys:List AL},EW xs ys=true->xs.length=ys.length/\∀(j:Nat)(x:Operand)(y:AL),xs[j]?=some x->ys[j]?=some y->CV B S m (ρ y) (a.eval x)
 |[],[],_=>⟨rfl,λj x y h=>by simp at h⟩
 |x::r,y::l,h=>by
  simp only[EW,ya]at h;obtain⟨jt,gv⟩:=R9 hs h.2;refine⟨by simp[jt],λj x' y' hx hy=>?_⟩;cases j with
  |zero=>simp at hx hy;subst hx hy;exact hs _ _ h.1
  |succ j=>exact gv j x' y' (by simpa using hx) (by simpa using hy)
 |[],_::_,h=>by simp[EW]at h
 |_::_,[],h=>by simp[EW]at h
theorem Xk(mx:Bool)(hs:CM B S m ρ a.eval)(w:World):∀(xs:List Operand)(ys:List AL)(v:AV)(u:Value)(r:AV),EW xs ys=true->CV B S m v u->M3 mx v (ys.map ρ)=some r->(∃k n,v = .int k n)->∃k n,r = .int k n /\
  ((xs.map a.eval).foldlM (if mx then Builtin.max2 else Builtin.min2) u).run P w = .ok (.int k n) w
 |[],[],v,u,r,_,hc,hm,⟨k,n,hv⟩=>by
  simp only[List.map_nil,M3,za]at hm;subst hm hv;obtain rfl:=JE hc;exact⟨k,n,rfl,Z'⟩
 |x::xr,y::yr,v,u,r,he,hc,hm,⟨k,n,hv⟩=>by
  simp only[EW,ya]at he;simp only[Da,M3]at hm;have hx:=hs x y he.1;subst hv;obtain rfl:=JE hc;cases hy:ρ y with
  |int k' n'=>
   rw[hy]at hx hm;have hxe:=JE hx;simp only[RD]at hm;obtain⟨k2,n2,rfl,h2⟩:=Xk mx hs w xr yr _ (.int k (if mx then(if n'>n then n' else n)else(if n'<n then n' else n))) r he.2 (S3 _ _) hm ⟨_,_,rfl⟩;refine⟨k2,n2,rfl,?_⟩;simp only[Da,List.foldlM_cons,Sem.run_bind,hxe];cases mx
   ·simpa [Builtin.min2]using h2
   ·simpa [Builtin.max2]using h2
  |_=>rw[hy]at hm;simp[RD]at hm
 |[],_::_,_,_,_,he,_,_,_=>by simp[EW]at he
 |_::_,[],_,_,_,he,_,_,_=>by simp[EW]at he
theorem AhV(hm:BJ B S w0 m)(hs:CM B S m ρ a.eval){mx:Bool}{xs':List AL}(h:A9 P num o.op (.mm mx xs')=true){v r:AV}{l:w_}(hx:xs'.map ρ=v::l)(hv:M3 mx v l=some r)(hi:∃k n,v = .int k n):CQ B S w0 P o a m (.val r):=by
 obtain⟨xs,ts,o9,he⟩:=Vo h;cases xs' with
 |nil=>simp at hx
 |cons y yr=>
  simp only[Da,Ke]at hx;obtain⟨rfl,rfl⟩:=hx;obtain⟨xl⟩:=xs;cases xl with
  |nil=>simp[EW]at he
  |cons x xr=>
   simp only[EW,ya]at he;obtain⟨k,n,rfl,w9⟩:=Xk (P:=P) mx hs m.w xr yr (ρ y) (a.eval x) r he.2 (hs x y he.1) hv hi;refine E5 hm (u := .int k n) ?_ (S3 _ _);cases mx
   ·simp only[execOp,o9,resolve,invoke,builtin,Builtin.min_,Sem.run_bind,Sem.run_pure,Result.andThen_ok]at w9⊢
    simp at w9⊢;rw[w9];rfl
   ·simp only[execOp,o9,resolve,invoke,builtin,Builtin.max_,Sem.run_bind,Sem.run_pure,Result.andThen_ok]at w9⊢
    simp at w9⊢;rw[w9];rfl
end
end Go.e9

namespace Go.e9
open Go.RowKit
section
variable {B:Nat} {S:Nat->Prop} {w0:GG} {m:M}
variable {P:Program} {num:Nat->Nat} {o:Oper} {a:Act} {ρ:AL->AV}
def JB(ρ:AL->AV)(d:Nat):Option AL->Option Int
 |none=>some d
 |some y=>match ρ y with |.int _ n=>some n|_=>none
theorem jJ(ty e:TypeId)(inf:TypeInfo)(hu:P.underlying ty=some (.slice e))(hi:P.info? e=some inf)(hs:CM B S m ρ a.eval){lo x5:Option Operand}{ql Hh:Option AL}(x6:OR lo ql=true)(Kq:OR x5 Hh=true)
  (ad:Option Addr) (len cap:Nat) (l h:Int) (hl:JB ρ 0 ql=some l) (hh:JB ρ len Hh=some h) (h0:0<=l) (hlh:l<=h) (hhl:h<=len) (jz:len<=cap) (w:World) :
  (Instr.sliceAt ty (.slice ad len cap) (lo.map a.eval) (x5.map a.eval) none).run P w = .ok (.slice (if cap=l.toNat then ad else ad.map (·.add (l.toNat*inf.size))) (h.toNat-l.toNat) (cap-l.toNat)) w:=by
 have yb:∀{x:Option Operand}{y:Option AL}{d:Nat}{n:Int},OR x y=true->JB ρ d y=some n->(x=none/\y=none/\n=d)\/∃x' k,x=some x'/\a.eval x' = .int k n:=by
  intro x y d n vf hb;cases x with
  |none=>cases y with
   |none=>simp[JB]at hb;exact .inl ⟨rfl,rfl,hb.symm⟩
   |some y=>simp[OR]at vf
  |some x=>cases y with
   |none=>simp[OR]at vf
   |some y=>
    simp only[OR]at vf;simp only[JB]at hb;cases hy:ρ y with
    |int k q=>
     rw[hy]at hb;simp only[za]at hb;subst hb;exact .inr ⟨x,k,rfl,JE (hy▸hs x y vf)⟩
    |_=>rw[hy]at hb;cases hb
 have Ar:h<=(cap:Int):=O'
 unfold Instr.sliceAt Instr.slice Instr.sliceBounds;rcases yb x6 hl with⟨rfl,_,rfl⟩|⟨x1,k1,rfl,e1⟩<;>rcases yb Kq hh with⟨rfl,_,rfl⟩|⟨x2,k2,rfl,e2⟩
 ·simp[run_underlying hu,sizeOf,typeInfo,hi]
 ·have qe:=run_sliceBound (P:=P) w k2 h cap .sliceAcap O' Ar
  simp[run_underlying hu,sizeOf,typeInfo,hi,e2,qe]
 ·have w7:=run_sliceBound (P:=P) w k1 l len .sliceB h0 O'
  simp[run_underlying hu,sizeOf,typeInfo,hi,e1,w7]
 ·have qe:=run_sliceBound (P:=P) w k2 h cap .sliceAcap O' Ar
  have w7:=run_sliceBound (P:=P) w k1 l h.toNat .sliceB h0 O';simp[run_underlying hu,sizeOf,typeInfo,hi,e1,e2,qe,w7]
theorem Ah1(hm:BJ B S w0 m)(hs:CM B S m ρ a.eval){a7:Nat}{x':AL}{ql x5:Option AL}(h:A9 P num o.op (.iz a7 x' ql x5)=true)(hx:ρ x' = .nil)(hl:JB ρ 0 ql=some 0)(hh:JB ρ 0 x5=some 0):CQ B S w0 P o a m (.val .nil):=by
 obtain⟨ty,x,lo,wc,e,inf,o9,h1,h2,h3,hu,hi,x8,q6⟩:=oN h;have de:=VV (hx▸hs x x' h1);have w9:=jJ ty e inf hu hi hs h2 h3 none 0 0 0 0 hl hh O' O' O' O' m.w;refine E5 hm (u := .slice none 0 0) ?_ (.ca (.one .nil));simp only[execOp,o9,de,Sem.run_bind,Db,w9];rfl
theorem Ah2(hm:BJ B S w0 m)(hs:CM B S m ρ a.eval){a7:Nat}{x':AL}{ql x5:Option AL}(h:A9 P num o.op (.iz a7 x' ql x5)=true){s t z off len:Nat}{l u:Int}(hx:ρ x' = .row s t z off len)(hl:JB ρ 0 ql=some l)(hh:JB ρ len x5=some u)(h0:0<=l)(zi:l<=u)(qh:u<=len)(hz:z=a7) :
  CQ B S w0 P o a m (.val (.row s t z (off+l.toNat) (u.toNat-l.toNat))):=by
 obtain⟨ty,x,lo,wc,e,inf,o9,h1,h2,h3,hu,hi,x8,q6⟩:=oN h;obtain⟨ad,cap,de,ht,cz,jz,ha,hb⟩:=QX (hx▸hs x x' h1);have w9:=jJ ty e inf hu hi hs h2 h3 ad len cap l u hl hh h0 zi qh jz m.w;refine E5 hm ?_ (.ca (.one (.row s t z (off+l.toNat) (u.toNat-l.toNat) (if cap=l.toNat then ad else ad.map (·.add (l.toNat*inf.size))) (cap-l.toNat) ht cz O' (λhp=>?_) (λb j9=>?_) (VW (hx▸hs x x' h1)))))
 ·simp only[execOp,o9,de,Sem.run_bind,Db,w9]
  rfl
 ·rw[if_neg O']
  obtain⟨Dx,rfl⟩:=Ma.1 (ha O');rfl
 ·obtain⟨nr,eo⟩:=hb b j9
  refine⟨nr,?_⟩;rcases eo with⟨nc,fb⟩|⟨g,arr,e',hg,ki,Kp,hle⟩
  ·exact .inl ⟨O',O'⟩
  ·by_cases hc:cap=l.toNat
   ·exact .inl ⟨O',O'⟩
   ·refine .inr ⟨g,arr,e',hg,?_,Kp,?_⟩
    ·rw[if_neg hc,ki,x8,hz]
     simp only[Ia,JA,Ea]
    ·rw[show off+l.toNat+(cap-l.toNat)=off+cap by omega]
     exact hle
theorem Ah3(hm:BJ B S w0 m)(hs:CM B S m ρ a.eval){a7:Nat}{x':AL}{ql x5:Option AL}(h:A9 P num o.op (.iz a7 x' ql x5)=true){lt:Bool}{es:v_}{l u:Int}(hx:ρ x' = .sl lt es)(hl:JB ρ 0 ql=some l)(hh:JB ρ es.length x5=some u)(h0:0<=l)(zi:l<=u)(qh:u<=es.length)(hz:∀e∈es,e.length=a7) :
  CQ B S w0 P o a m (.val (.sl lt ((es.take u.toNat).drop l.toNat))):=by
 obtain⟨ty,x,lo,wc,e,inf,o9,h1,h2,h3,hu,hi,x8,q6⟩:=oN h;have ko:=eT (hx▸hs x x' h1);generalize de:a.eval x=v at ko;cases ko with
 |jl _ ad cap=>
  have w9:=jJ ty e inf hu hi hs h2 h3 ad 0 cap l u hl hh h0 zi (by simpa using qh) O' m.w;simp only[List.length_nil]at qh;rw[show(([]:v_).take u.toNat).drop l.toNat=[]by simp];refine E5 hm (u := .slice (if cap=l.toNat then ad else ad.map (·.add (l.toNat*inf.size))) 0 (cap-l.toNat)) ?_ (.ca (.one (.rd (.jl lt _ _))));simp only[execOp,o9,de,Sem.run_bind,Db,w9];rw[show u.toNat-l.toNat=0 by omega];rfl
 |sl _ _ b ob ag cap uu wm hp hR cj gu hc hr=>
  have w9:=jJ ty e inf hu hi hs h2 h3 (some ⟨b,ob,none⟩) es.length cap l u hl hh h0 zi qh cj m.w;have Je:ag=a7:=by
   cases es with
   |nil=>exact absurd rfl wm
   |cons q r=>rw[<-gu q Z',hz q Z']
  subst Je;by_cases cz:u.toNat-l.toNat=0
  ·have:(es.take u.toNat).drop l.toNat=[]:=by
    apply ma;simp;omega
   rw[this];refine E5 hm (u := .slice (if cap=l.toNat then some ⟨b,ob,none⟩else(some (⟨b,ob,none⟩:Addr)).map (·.add (l.toNat*inf.size))) 0 (cap-l.toNat)) ?_ (.ca (.one (.rd (Rd.jl lt _ _))));simp only[execOp,o9,de,Sem.run_bind,Db,w9];rw[cz];rfl
  ·have hlen:((es.take u.toNat).drop l.toNat).length=u.toNat-l.toNat:=by simp;omega
   have o5:∀i,i<u.toNat-l.toNat->((es.take u.toNat).drop l.toNat)[i]?=es[l.toNat+i]? := λi x5=>by
    rw[Qa,ea,if_pos O']
   refine E5 hm (u := .slice (some ⟨b,ob+l.toNat*ag,none⟩) ((es.take u.toNat).drop l.toNat).length (cap-l.toNat)) ?_ (.ca (.one (.rd (.sl lt _ b (ob+l.toNat*ag) ag (cap-l.toNat) (λi j=>uu (l.toNat+i) j) (λe=>cz (by rw[<-hlen,e];rfl)) hp hR (by rw[hlen];omega) (λq hq=>gu q (Cb (Ed hq))) (λi q x5 j c hj=>?_) (λi q x5 j c hj=>?_)))))
   ·simp only[execOp,o9,de,Sem.run_bind,Db,w9]
    rw[if_neg O',hlen,x8];simp only[Ia,JA];rfl
   ·have ic:i<u.toNat-l.toNat:=by rw[<-hlen];exact(zS x5).1
    rw[o5 i ic]at x5;rw[show ob+l.toNat*ag+(i*ag+j)=ob+((l.toNat+i)*ag+j)by rw[Ea];omega];exact hc _ q x5 j c hj
   ·have ic:i<u.toNat-l.toNat:=by rw[<-hlen];exact(zS x5).1
    rw[o5 i ic]at x5;exact hr _ q x5 j c hj
structure ZQ(B:Nat)(S:Nat->Prop)(m:M)(a7:Nat)(ys:v_)(ad:Option Addr)(news:List Value):Prop where
 len:news.length=ys.length*a7
 cells:∀b,ad=some b->∀j v,news[j]?=some v->m.w.cell? (b.add j)=some v
 some_:ys≠[]->ad.isSome=true
 rel:∀i cs,ys[i]?=some cs->∀j c,cs[j]?=some c->∃u,news[i*a7+j]?=some u/\CC B S m c u
theorem wU(a7 i j:Nat)(h:j<a7):(i*a7+j)/a7=i/\(i*a7+j)%a7=j:=by
 constructor
 ·rw[Hd,Nat.add_mul_div_right _ _ O',Nat.div_eq_of_lt h,Ca]
 ·rw[Hd,Od,Le h]
theorem mM(hm:BJ B S w0 m){av:AV}{v:Value}(hc:CV B S m av v){ys:v_}(he:FB m.own av=some ys){a7:Nat}(hz:∀e∈ys,e.length=a7)(h0:0<a7) :
  ∃ad cap news,v = .slice ad ys.length cap/\ZQ B S m a7 ys ad news:=by
 cases av with
 |sl l es=>
  simp only[FB,za]at he;subst he;cases eT hc with
  |jl _ ad cap=>exact⟨ad,cap,[],rfl,Z',λb _ j v hv=>by simp at hv,λh=>absurd rfl h,λi cs hi=>by simp at hi⟩
  |sl _ _ b ob ag cap uu wm hp hR cj gu u6 hr=>
   have Je:ag=a7:=by
    cases es with
    |nil=>exact absurd rfl wm
    |cons q r=>rw[<-gu q Z',hz q Z']
   subst Je;refine⟨some ⟨b,ob,none⟩,cap,(dd (es.length*ag)).map (λk=>uu (k/ag) (k%ag)),rfl,Z',λb' j9 j v hv=>?_,λ_=>rfl,λi cs hi j c hj=>?_⟩
   ·obtain rfl:(⟨b,ob,none⟩:Addr)=b':=by simpa using j9
    rw[ja]at hv;have fe:j<es.length*ag:=by
     rcases Jb j (es.length*ag)with h|h
     ·exact h
     ·rw[List.getElem?_eq_none (by simpa using h)]at hv;cases hv
    rw[Kc fe]at hv;simp only[Ia,za]at hv;subst hv;have hd:j/ag<es.length:=Mc (by rw[xc];exact fe);have Pa:j%ag<ag:=re _ h0;have fc:(es[j/ag]).length=ag:=gu _ (eb hd);have:=u6 (j/ag) _ (zE hd) (j%ag) _ (zE (by rw[fc];exact Pa))
    rw[JA,<-this];congr 2;have:=kd j ag
    rw[xc]at this;omega
   ·have fe:j<ag:=by rw[<-gu cs (zM hi)];exact(zS hj).1
    have ic:i<es.length:=(zS hi).1;have k7:i*ag+j<es.length*ag:=by
     have:(i+1)*ag<=es.length*ag:=zR _ ic
     rw[zb]at this;omega
    obtain⟨e1,e2⟩:=wU ag i j fe;refine⟨uu i j,?_,.rd (hr i cs hi j c hj)⟩;rw[ja,Kc k7];simp[e1,e2]
 |nil=>
  simp only[FB,za]at he;subst he;exact⟨none,0,[],VV hc,Z',λb hb=>(by cases hb),λh=>absurd rfl h,λi cs hi=>by simp at hi⟩
 |row s t z off len=>
  obtain⟨ad,cap,hv,ht,cz,jz,ha,hb⟩:=QX hc;simp only[FB]at he;cases o5:m.own.get s t with
  |none=>simp[o5]at he
  |some b=>
   simp only[o5]at he;split at he
   ·rename_i hle
    obtain⟨hle,nr⟩:=hle;obtain rfl:=na he;have hyl:((b.es.drop off).take len).length=len:=by simp;omega
    obtain⟨_,eo⟩:=hb b o5;by_cases nc:len=0
    ·subst nc
     refine⟨ad,cap,[],by simpa using hv,Z',λb _ j v hv=>by simp at hv,λh=>absurd Z' h,λi cs hi=>by simp at hi⟩
    ·rcases eo with⟨h1,_⟩|⟨g,arr,e',hg,ki,Kp,ABZ⟩
     ·exact absurd h1 nc
     ·obtain⟨gu,cq⟩:=hm.my o5 (VW hc)
      rw[hg]at cq;obtain⟨hB,mw,e2,sz,ck⟩:=cq;rw[Kp]at sz;obtain⟨rfl,rfl⟩:arr=mw/\e'=e2:=by simpa using sz
      have hez:a7=z:=by
       have k7:off<b.es.length:=O'
       have h1:b.es[off]∈(b.es.drop off).take len:=by
        have:((b.es.drop off).take len)[0]?=some b.es[off]:=by
         rw[ea,if_pos O',Qa];simp[k7]
        exact zM this
       rw[<-hz _ h1,gu _ (eb k7),nr]
      subst hez;have x8:off*a7+len*a7<=arr.size:=by
       have:(off+len)*a7<=(off+cap)*a7:=zR _ O'
       rw[Ea]at this;omega
      refine⟨ad,cap,(arr.toList.drop (off*a7)).take (len*a7),by rw[hyl];exact hv,by rw[hyl];simp;omega,λb' j9 j v iy=>?_,λ_=>by rw[ki];rfl,λi cs hi j c hj=>?_⟩
      ·rw[ki]at j9
       obtain rfl:(⟨g,off*a7,none⟩:Addr)=b':=by simpa using j9
       rw[ea]at iy;split at iy
       ·rw[Qa]at iy
        rw[JA,VO Kp];simpa using iy
       ·cases iy
      ·rw[ea]at hi
       split at hi
       ·rename_i ic
        rw[Qa]at hi;have fe:j<a7:=by rw[<-nr,<-gu cs (zM hi)];exact(zS hj).1
        obtain⟨u,hu,fq⟩:=ck (off+i) cs hi j c hj;refine⟨u,?_,fq⟩;have k7:i*a7+j<len*a7:=by
         have:(i+1)*a7<=len*a7:=zR _ ic
         rw[zb]at this;omega
        rw[ea,if_pos k7,Qa,<-hu,nr];simp only[Hb];congr 1;rw[Ea];omega
       ·cases hi
   ·cases he
 |y8 v'=>
  cases v' with
  |bool b=>
   simp only[FB,za]at he;subst he;obtain⟨ad,cap,hv,_⟩:=wD hc;exact⟨ad,cap,[],hv,Z',λb' j9 j v iy=>by simp at iy,λh=>absurd rfl h,λi cs hi=>by simp at hi⟩
  |_=>simp[FB]at he
 |_=>simp[FB]at he
theorem ZQ.one{a7:Nat}{ys:v_}{ad:Option Addr}{news:List Value}(h:ZQ B S m a7 ys ad news)(h0:0<a7)(hz:∀e∈ys,e.length=a7):∀u∈news,u.oneCell'=true:=by
 intro u hu;obtain⟨k,hk,rfl⟩:=Lc hu;rw[h.len]at hk;have hd:k/a7<ys.length:=Mc (by rw[xc];exact hk);have Pa:k%a7<a7:=re _ h0;have fc:(ys[k/a7]).length=a7:=hz _ (eb hd);obtain⟨u',lk,hc⟩:=h.rel (k/a7) _ (zE hd) (k%a7) _ (zE (by rw[fc];exact Pa));have jy:k/a7*a7+k%a7=k:=by
  have:=kd k a7
  rw[xc]at this;exact this
 rw[jy]at lk;obtain rfl:news[k]=u':=by
  have:=(zS lk).2
  exact this
 exact hc.one
theorem ZQ.src{a7:Nat}{ys:v_}{ad:Option Addr}{news:List Value}(h:ZQ B S m a7 ys ad news)(h0:0<a7)(hz:∀e∈ys,e.length=a7){t e:TypeId}(hu:P.underlying t=some (.slice e))(cap:Nat):Src P a7 t (.slice ad ys.length cap) ys.length news m.w:=by
 cases ad with
 |none=>
  have qk:ys=[]:=by
   cases ys with
   |nil=>rfl
   |cons y r=>exact absurd (h.some_ Z') Z'
  subst qk;have hn:news=[]:=ma (by simpa using h.len);subst hn;exact Src.ofNil m.w hu cap
 |some b=>exact Src.ofSlice m.w hu b ys.length cap news h.len (h.cells b rfl) (h.one h0 hz)
theorem Al6(arr:Array Value)(off:Nat)(news:List Value)(h:off+news.length<=arr.size)(p:Nat):(arr.toList.take off++news++arr.toList.drop (off+news.length)).toArray[p]?=if p<off then arr[p]? else if p<off+news.length then news[p-off]? else arr[p]? := by
 simp only[Gd];rw[rY _ _ _ (by simpa using h)];simp only[Hb]
theorem AmT(t tx e ex:TypeId)(i:TypeInfo)(ht:P.underlying t=some (.slice e))(hx:P.underlying tx=some (.slice ex))(hi:P.info? e=some i)(g off ry uk:Nat)(x:Value)(n:Nat)(news:List Value)(w:World)(hs:Src P i.size tx x n news w)(kp:ry+n<=uk)(arr:Array Value)(e':TypeId)
  (hh:w.heap[g]?=some (.cells arr e' (0,0))) (x8:off+ry*i.size+news.length<=arr.size) (ty:TypeId) :
  (Builtin.append_ #[t,tx] ty #[.slice (some ⟨g,off,none⟩) ry uk,x]).run P w = .ok (.slice (some ⟨g,off,none⟩) (ry+n) uk) (w.setRow g (arr.toList.take (off+ry*i.size)++news++arr.toList.drop (off+ry*i.size+news.length)).toArray):=by
 have o7:=run_storeCells_at (P:=P) g (off+ry*i.size) e' news 0 arr w hh O' hs.one;simp only[Ec]at o7;simp[Builtin.append_,run_underlying ht,run_underlying hx,sizeOf,typeInfo,hi,hs.len,kp,hs.cells,JA,o7]
theorem Xh(t tx e ex:TypeId)(i:TypeInfo)(ht:P.underlying t=some (.slice e))(hx:P.underlying tx=some (.slice ex))(hi:P.info? e=some i)(ad:Option Addr)(uk:Nat)(x:Value)(w:World)(hs:Src P i.size tx x 0 [] w)(ty:TypeId) :
  (Builtin.append_ #[t,tx] ty #[.slice ad 0 uk,x]).run P w = .ok (.slice ad 0 uk) w:=by
 have hc:=hs.cells;cases ad<;>simp[Builtin.append_,run_underlying ht,run_underlying hx,sizeOf,typeInfo,hi,hs.len,hc,storeCells]
theorem cC{x y:Operand}{t tx:TypeId}(o9:o.op = .call ⟨.builtin .append,#[x,y],#[t,tx]⟩){u:Value}{w w':World}(h:(Builtin.append_ #[t,tx] o.type #[a.eval x,a.eval y]).run P w = .ok u w'):(execOp a.eval o).run P w = .ok (.value u) w':=by
 simp[execOp,o9,resolve,invoke,builtin,h]
theorem Akj(fk news:List Value)(z:Array Value)(k p:Nat)(h:p<fk.length+news.length):((fk++news).toArray++Builtin.zeroCells z k)[p]?=(fk++news)[p]? := by
 rw[gd (by simpa using h)];simp
theorem AmJ{a7 len:Nat}{xs ys:v_}{fk news:List Value}(Qm:xs.length=len)(mn:fk.length=len*a7)(hzx:∀e∈xs,e.length=a7)
  (hx:∀i cs,xs[i]?=some cs->∀j c,cs[j]?=some c->∃u,fk[i*a7+j]?=some u/\CC B S m c u)
  (hy:∀i cs,ys[i]?=some cs->∀j c,cs[j]?=some c->∃u,news[i*a7+j]?=some u/\CC B S m c u) :
  ∀i cs,(xs++ys)[i]?=some cs->∀j c,cs[j]?=some c->∃u,(fk++news)[i*a7+j]?=some u/\CC B S m c u:=by
 intro i cs hi j c hj;by_cases ic:i<len
 ·rw[Na O']at hi
  obtain⟨u,hu,hc⟩:=hx i cs hi j c hj;exact⟨u,by rw[Na (by have:=(zS hu).1;omega)];exact hu,hc⟩
 ·rw[Ja O',Qm]at hi
  obtain⟨u,hu,hc⟩:=hy (i-len) cs hi j c hj;refine⟨u,?_,hc⟩;have e1:i*a7=len*a7+(i-len)*a7:=by rw[<-Ea];congr 1;omega
  rw[Ja O',<-hu];congr 1;omega
theorem Vd{s z n cap:Nat}(x6:s<EP){es:v_}{w':World}{g t:Nat}{arr:Array Value}{e:TypeId}(hz:0<z)(hn:n<=cap)(hg:w'.heap[g]?=some (.cells arr e (0,0)))(hc:cap*z<=arr.size) :
  CV B S ⟨k6 m s (some g),m.own.put s (((m.own s).u5 t none).new ⟨z,es⟩),w'⟩ (.row s (m.own.j7 s) z 0 n) (.slice (some ⟨g,0,none⟩) n cap):=by
 refine .ca (.one (.row s (m.own.j7 s) z 0 n _ cap ?_ hz hn (λ_=>rfl) (λb' j9=>⟨?_,.inr ⟨g,arr,e,?_,Z',hg,by simpa using hc⟩⟩) x6))
 ·show _<Own.j7 _ s
  rw[eJ];simp
 ·change Own.get _ s _=some b' at j9
  rw[SN,if_pos ⟨rfl,rfl⟩]at j9;obtain rfl:(⟨z,es⟩:DI)=b':=by simpa using j9
  rfl
 ·simp[k6]
theorem Agk(hm:BJ B S w0 m)(ob:Obj):D7 w0.D B w0.w (m.w.drew.alloc ob):=hm.below.drew.alloc (by simpa using hm.size) ob
theorem mE(hm:BJ B S w0 m)(hs:CM B S m ρ a.eval){s a7 bytes:Nat}{x' y':AL}(h:A9 P num o.op (.app s a7 bytes x' y')=true){ys:v_}(hy:FB m.own (ρ y')=some ys)(hz:∀e∈ys,e.length=a7){s' t len:Nat}{b:DI}(hx:ρ x' = .row s' t a7 0 len)(o5:m.own.get s' t=some b)
  (nr:b.a7=a7) (hle:len<=b.es.length) (kp:(len+ys.length)*bytes<=E7) (Fu:len+ys.length<=9223372036854775807) :
  CQ B S w0 P o a m (.cn (.row s' (m.own.j7 s') a7 0 (len+ys.length)) (m.own.put s' (((m.own s').u5 t none).new ⟨a7,b.es.take len++ys⟩))):=by
 obtain⟨x,y,ty,e,i,z,tx,ex,o9,h1,h2,hu,hi,x8,vo,cz,gu,q6,Ex⟩:=Vk h;have h0:0<a7:=tc q6;obtain⟨ad,cap,de,ht,_,jz,ha,hb⟩:=QX (hx▸hs x x' h1);obtain⟨Bq,mi,news,ug,fc⟩:=mM hm (hs y y' h2) hy hz h0;have pn:Src P i.size tx (.slice Bq ys.length mi) ys.length news m.w:=by rw[x8];exact fc.src h0 hz Ex mi
 have x6:=VW (hx▸hs x x' h1);obtain⟨nq,cq⟩:=hm.my o5 x6;obtain⟨_,eo⟩:=hb b o5;have dp:(b.es.take len).length=len:=by simp;omega
 have Bf:∀q∈b.es.take len++ys,q.length=a7:=λq hq=>by
  rcases Ka.1 hq with hq|hq
  ·rw[<-nr];exact nq q (Cb hq)
  ·exact hz q hq
 intro K Q hK;by_cases yx:len+ys.length<=cap
 ·rcases eo with⟨nc,fb⟩|⟨g,arr,e',hg,ki,hh,Oc⟩
  ·have qk:ys=[]:=ma O'
   subst qk;subst nc fb;have pe:news=[]:=ma (by simpa using fc.len);subst pe;have w9:=Xh ty tx e ex i hu Ex hi ad 0 (.slice Bq 0 mi) m.w (by simpa using pn) o.type;obtain⟨k1,k2⟩:=pM hm s' t x6 b ⟨a7,b.es.take 0++[]⟩ o5 none m.w hm.below (ga _) (λ_ _ _=>rfl) Z' Z' Z';refine OG (cC o9 (by rw[de,ug];simpa using w9)) (hK _ ⟨k6 m s' none,m.own.put s' (((m.own s').u5 t none).new ⟨a7,b.es.take 0++[]⟩),m.w⟩ rfl k1 k2 (.ca (.one (.row s' (m.own.j7 s') a7 0 0 ad 0 ?_ h0 (ga _) (λh=>O') (λb' j9=>⟨?_,.inl ⟨rfl,rfl⟩⟩) x6))))
   ·show _<Own.j7 _ s'
    rw[eJ];simp
   ·change Own.get _ s' _=some b' at j9
    rw[SN,if_pos ⟨rfl,rfl⟩]at j9;obtain rfl:(⟨a7,b.es.take 0++[]⟩:DI)=b':=by simpa using j9
    rfl
  ·have Ci:ad=some ⟨g,0,none⟩:=by simpa using ki
   rw[hg]at cq;obtain⟨hB,mw,e2,sz,ck⟩:=cq;rw[hh]at sz;obtain⟨rfl,rfl⟩:arr=mw/\e'=e2:=by simpa using sz
   have fg:news.length=ys.length*a7:=fc.len;have hbound:len*a7+news.length<=arr.size:=by
    have:(len+ys.length)*a7<=(0+cap)*a7:=zR _ O'
    rw[Ea]at this;omega
   have w9:=AmT ty tx e ex i hu Ex hi g 0 len cap (.slice Bq ys.length mi) ys.length news m.w pn yx arr e' hh (by rw[x8];omega) o.type;rw[x8,Ca]at w9;generalize om:(arr.toList.take (len*a7)++news++arr.toList.drop (len*a7+news.length)).toArray=af at w9;have di:∀p,af[p]?=if p<len*a7 then arr[p]? else if p<len*a7+news.length then news[p-len*a7]? else arr[p]? := λp=>by rw[<-om];exact Al6 arr (len*a7) news hbound p
   have rm:af.size=arr.size:=by rw[<-om];simp;omega
   obtain⟨k1,k2⟩:=pM hm s' t x6 b ⟨a7,b.es.take len++ys⟩ o5 (some g) (m.w.setRow g af) (uT hm hB af) Z' (λk _ wm=>setRow_other _ _ _ _ (λe=>wm (e▸hg))) Bf Z' (λg' jo=>by
    obtain rfl:g=g':=by simpa using jo
    refine⟨hB,.inr hg,af,e',setRow_heap _ _ _ _ _ _ hh,λi' cs x5 j c hj=>?_⟩;show∃u,af[i'*a7+j]?=some u/\_;by_cases ic:i'<len
    ·rw[Na O',ea,if_pos ic]at x5
     have fe:j<a7:=by rw[<-nr,<-nq cs (zM x5)];exact(zS hj).1
     obtain⟨u,lk,fq⟩:=ck i' cs x5 j c hj;refine⟨u,?_,fq⟩;have:(i'+1)*a7<=len*a7:=zR _ ic
     rw[zb]at this;rw[di,if_pos O',<-lk,nr]
    ·rw[Ja O',dp]at x5
     obtain⟨u,lk,fq⟩:=fc.rel (i'-len) cs x5 j c hj;refine⟨u,?_,fq⟩;have qh:=(zS lk).1;have e1:i'*a7=len*a7+(i'-len)*a7:=by rw[<-Ea];congr 1;omega
     rw[di,if_neg O',if_pos O',<-lk];congr 1;omega)
   exact OG (cC o9 (by rw[de,ug,Ci];exact w9)) (hK _ ⟨k6 m s' (some g),m.own.put s' (((m.own s').u5 t none).new ⟨a7,b.es.take len++ys⟩),m.w.setRow g af⟩ rfl k1 k2 (Vd x6 h0 yx (setRow_heap _ _ _ _ _ _ hh) (by rw[rm];simpa using Oc)))
 ·have ox:cap<len+ys.length:=O'
  obtain⟨fk,mn,hold,Di⟩:∃fk:List Value,fk.length=len*a7/\(Builtin.firstCells i.size len (.slice ad len cap)).run P m.w.drew = .ok fk.toArray m.w.drew/\(∀i' cs,(b.es.take len)[i']?=some cs->∀j c,cs[j]?=some c->∃u,fk[i'*a7+j]?=some u/\CC B S m c u):=by
   rcases eo with⟨nc,fb⟩|⟨g,arr,e',hg,ki,hh,Oc⟩
   ·subst nc
    refine⟨[],Z',?_,λi' cs x5=>by simp at x5⟩;cases ad with
    |none=>exact run_firstCells_none m.w.drew i.size 0 0 cap
    |some Dx=>exact run_firstCells_some m.w.drew i.size 0 Dx 0 cap [] Z' (λj v hv=>by simp at hv)
   ·have Ci:ad=some ⟨g,0,none⟩:=by simpa using ki
    rw[hg]at cq;obtain⟨hB,mw,e2,sz,ck⟩:=cq;rw[hh]at sz;obtain⟨rfl,rfl⟩:arr=mw/\e'=e2:=by simpa using sz
    have u6:len*a7<=arr.size:=by
     have:len*a7<=(0+cap)*a7:=zR _ O'
     omega
    refine⟨arr.toList.take (len*a7),by simp;omega,?_,λi' cs x5 j c hj=>?_⟩
    ·rw[Ci]
     refine run_firstCells_some m.w.drew i.size len ⟨g,0,none⟩ len cap _ (by rw[x8];simp;omega) (λj v hv=>?_);rw[ea]at hv;split at hv
     ·rw[JA,VO (w:=m.w.drew) (show m.w.heap[g]?=_ from hh)]
      simpa using hv
     ·cases hv
    ·rw[ea]at x5
     split at x5
     ·rename_i ic
      have fe:j<a7:=by rw[<-nr,<-nq cs (zM x5)];exact(zS hj).1
      obtain⟨u,lk,fq⟩:=ck i' cs x5 j c hj;refine⟨u,?_,fq⟩;have:(i'+1)*a7<=len*a7:=zR _ ic
      rw[zb]at this;rw[ea,if_pos O',<-lk,nr];simp
     ·cases x5
  have w9:=run_append_grow_src (P:=P) m.w ty tx o.type e i z hu hi cz ad len cap fk hold (.slice Bq ys.length mi) ys.length news pn ox O' (growslice_fits ox (by rw[vo];exact kp));have fg:news.length=ys.length*a7:=fc.len;have cj:len+ys.length<=grownCap m.w (len+ys.length) cap e:=grownCap_ge _ _ _ _;generalize Kn:grownCap m.w (len+ys.length) cap e=gc at w9 cj;have fx:=Agk hm (.cells ((fk++news).toArray++Builtin.zeroCells z.cells (gc-(len+ys.length))) e);have eh:(m.w.drew.alloc (.cells ((fk++news).toArray++Builtin.zeroCells z.cells (gc-(len+ys.length))) e)).heap[m.w.heap.size]?=some (.cells ((fk++news).toArray++Builtin.zeroCells z.cells (gc-(len+ys.length))) e (0,0)):=heap_alloc_new m.w.drew _;obtain⟨k1,k2⟩:=pM hm s' t x6 b ⟨a7,b.es.take len++ys⟩ o5 (some m.w.heap.size) _ fx Z' (λk hk _=>Below.heap_alloc m.w.drew _ k hk) Bf Z' (λg' jo=>by
   obtain rfl:m.w.heap.size=g':=by simpa using jo
   refine⟨hm.size,.inl (ga _),_,e,eh,λi' cs x5 j c hj=>?_⟩;obtain⟨u,lk,fq⟩:=AmJ dp mn (λq hq=>by rw[<-nr];exact nq q (Cb hq)) Di fc.rel i' cs x5 j c hj;refine⟨u,?_,fq⟩;rw[Akj _ _ _ _ _ (by have:=(zS lk).1;simpa using this)];exact lk)
  refine OG (cC o9 (by rw[de,ug];exact w9)) (hK _ ⟨k6 m s' (some m.w.heap.size),m.own.put s' (((m.own s').u5 t none).new ⟨a7,b.es.take len++ys⟩),_⟩ rfl k1 k2 (Vd x6 h0 cj eh ?_));have zy:(Builtin.zeroCells z.cells (gc-(len+ys.length))).size=(gc-(len+ys.length))*a7:=by simp[Builtin.zeroCells,gu]
  rw[te,zy];simp only[je,ve,mn,fg];rw[<-Ea,<-Ea];exact zR _ O'
theorem wY(hm:BJ B S w0 m)(hs:CM B S m ρ a.eval){s a7 bytes:Nat}(x6:s<EP){x' y':AL}(h:A9 P num o.op (.app s a7 bytes x' y')=true){ys:v_}(hy:FB m.own (ρ y')=some ys)(hz:∀e∈ys,e.length=a7)(hx:ρ x' = .nil)
  (kp:ys.length*bytes<=E7) (Fu:ys.length<=9223372036854775807) :
  CQ B S w0 P o a m (.cn (.row s (m.own.j7 s) a7 0 ys.length) (m.own.put s ((m.own s).new ⟨a7,ys⟩))):=by
 obtain⟨x,y,ty,e,i,z,tx,ex,o9,h1,h2,hu,hi,x8,vo,cz,gu,q6,Ex⟩:=Vk h;have h0:0<a7:=tc q6;have de:=VV (hx▸hs x x' h1);obtain⟨Bq,mi,news,ug,fc⟩:=mM hm (hs y y' h2) hy hz h0;have pn:Src P i.size tx (.slice Bq ys.length mi) ys.length news m.w:=by rw[x8];exact fc.src h0 hz Ex mi
 intro K Q hK;by_cases qk:ys=[]
 ·subst qk
  have pe:news=[]:=ma (by simpa using fc.len);subst pe;have w9:=Xh ty tx e ex i hu Ex hi none 0 (.slice Bq 0 mi) m.w (by simpa using pn) o.type;obtain⟨k1,k2⟩:=AdZ hm s a7 x6;refine OG (cC o9 (by rw[de,ug];simpa using w9)) (hK _ ⟨k6 m s none,m.own.put s ((m.own s).new ⟨a7,[]⟩),m.w⟩ rfl k1 k2 (.ca (.one (.row s (m.own.j7 s) a7 0 0 none 0 ?_ h0 (ga _) (λh=>O') (λb' j9=>⟨?_,.inl ⟨rfl,rfl⟩⟩) x6))))
  ·show _<Own.j7 _ s
   rw[KY];simp
  ·change Own.get _ s _=some b' at j9
   rw[GA,if_pos ⟨rfl,rfl⟩]at j9;obtain rfl:(⟨a7,[]⟩:DI)=b':=by simpa using j9
   rfl
 ·have zl:0<ys.length:=List.length_pos_iff.2 qk
  have w9:=run_append_grow_src (P:=P) m.w ty tx o.type e i z hu hi cz none 0 0 [] (run_firstCells_none m.w.drew i.size 0 0 0) (.slice Bq ys.length mi) ys.length news pn O' O' (growslice_fits O' (by rw[vo,Ca];exact kp));simp only[Ca,List.nil_append]at w9;have fg:news.length=ys.length*a7:=fc.len;have cj:ys.length<=grownCap m.w ys.length 0 e:=grownCap_ge _ _ _ _;generalize Kn:grownCap m.w ys.length 0 e=gc at w9 cj;have hd:D7 w0.D m.w.heap.size m.w m.w.drew:=(D7.refl _ _ _).drew;obtain⟨ix,Hf⟩:=grow hm hd;obtain⟨k1,k2⟩:=kZ ix s x6 ⟨a7,ys⟩ (news.toArray++Builtin.zeroCells z.cells (gc-ys.length)) e hz (λi' cs x5 j c hj=>by
   obtain⟨u,lk,fq⟩:=fc.rel i' cs x5 j c hj;refine⟨u,?_,Hf.cc fq⟩;have qh:=(zS lk).1;show(news.toArray++Builtin.zeroCells z.cells (gc-ys.length))[i'*a7+j]?=some u;rw[gd (by simpa using qh)];simpa using lk)
  have zy:(Builtin.zeroCells z.cells (gc-ys.length)).size=(gc-ys.length)*a7:=by simp[Builtin.zeroCells,gu]
  refine OG (cC o9 (by rw[de,ug];exact w9)) (hK _ ⟨k6 ⟨m.ν,m.own,m.w.drew⟩ s (some m.w.drew.heap.size),m.own.put s ((m.own s).new ⟨a7,ys⟩),_⟩ rfl k1 (Hf.trans k2) (Ua (m:=⟨m.ν,m.own,m.w.drew⟩) x6 h0 cj (heap_alloc_new m.w.drew _) ?_));rw[te,zy];simp only[je,fg];rw[<-Ea];exact zR _ O'
end
end Go.e9

namespace Go.e9
open Go.RowKit
section
variable {B:Nat} {S:Nat->Prop} {w0:GG} {m:M}
variable {P:Program} {num:Nat->Nat} {o:Oper} {a:Act} {ρ:AL->AV}
theorem An8(ow:Own)(s t:Nat)(b:DI)(h:ow.get s t=some b):ow.put s ((ow s).u5 t (some b))=ow:=by
 funext s'
 unfold Own.put B5.u5;by_cases hs:s'=s
 ·subst hs
  rw[if_pos rfl];unfold Own.get at h;cases hx:ow s' with
  |mk c f=>
   rw[hx]at h;simp only at h;congr;funext t'
   by_cases ht:t'=t
   ·subst ht;simp[h]
   ·simp[ht]
 ·simp[hs]
structure E0 where
 b0:Nat
 ok:World->Prop
 D:Prop
 size:∀w,ok w->b0<=w.heap.size
 pq:∀w w',ok w->Below b0 w w'->ok w'
def E0.Rf(D:Prop):E0:=⟨0,λ_=>True,D,λ_ _=>Ce _,λ_ _ _ _=>trivial⟩
def tL(P:Program)(num:Nat->Nat)(cmp:Nat->w_->Option AV):Prop := ∀(f:Nat)(vs:w_)(r:AV),cmp f vs=some r->(∀(us:Array Value)(w:World),(callFunc (num f) us).run P w = .ok (.enter (num f) us) w) /\
 ∀(S:Nat->Prop)(w:World)(us:List Value),vs.length=us.length->(∀(j:Nat)(c:AV)(v:Value),vs[j]?=some c->us[j]?=some v->CA w.heap.size S ⟨λ_ _=>none,Own.emp,w⟩ c v) ->
  Calls P (num f) us.toArray w λe w'=>∃u,e = .returned u/\D7 True w.heap.size w w'/\CV w.heap.size S ⟨λ_ _=>none,Own.emp,w'⟩ r u
def I0{α:Type}(cf:α->α->Int)(x y:α):Bool:=decide (cf x y<0)
def MT{α:Type}[Inhabited α](enc:α->List Value)(k:Nat)(d:Array α):Array Value:=(De (d.size*k)).map λt=>(enc d[t/k]!)[t%k]!
def NP{α:Type}[Inhabited α](enc:α->List Value)(k:Nat)(w:World)(c9 off m:Nat)(dk:Array α)(os:Array Obj):World:=Sort.grow (Sort.putRow id (Sort.ahead w m) c9 off (MT enc k dk)) os
open Go.Sort in
def dQ(P:Program)(n k:Nat):Prop:=(∀(us:Array Value)(w:World),(callFunc n us).run P w = .ok (.enter n us) w) /\
 (∀(p:Option Addr)(cap:Nat)(fv:Value)(w:World),Calls P n #[.slice p 0 cap,fv] w λe w'=>e = .returned (.tuple #[])/\w'=w) /\
 ∀(N:Nat)(enc:Fin (N+1)->List Value),(∀x,(enc x).length=k)->(∀x,∀v∈enc x,v.oneCell'=true)->∀(cf:Fin (N+1)->Fin (N+1)->Int),SWO (I0 cf)->∀(g c9 off cap:Nat)(d:Array (Fin (N+1)))(w:World),
  (∀args w,(callFunc g args).run P w = .ok (.enter g args) w) ->
  (∀(m:Nat)(os:Array Obj)(dk:Array (Fin (N+1))),dk.size=d.size->∀x y:Fin (N+1),Calls P g (#[.agg (enc x).toArray,.agg (enc y).toArray] ++ #[]) (NP enc k w c9 off m dk os) λe w'=>e = .returned (.int .i64 (cf x y))/\∃q os',w'=Sort.grow ((NP enc k w c9 off m dk os).drewN q) os') ->
  Holds id w c9 off (MT enc k d)->c9<w.heap.size->d.size<4611686018427387904->(∀x y,(I0 cf) x y=false->(I0 cf) y x=false->x=y) ->
  Calls P n #[.slice (some ⟨c9,off,none⟩) d.size cap,.func (.func g) #[] #[]] w λe w'=>
   e = .returned (.tuple #[])/\∃n os,w'=NP enc k w c9 off n (d.toList.mergeSort λx y=>!(I0 cf) y x).toArray os
structure dA(I:E0)(P:Program)(num:Nat->Nat)(C:Cl):Prop where
 qy:∀(f:Nat)(vs:w_)(r:AV),C.pure f vs=some r->∀(us:Array Value)(w:World),(callFunc (num f) us).run P w = .ok (.enter (num f) us) w
 qw:∀(f:Nat)(vs:w_)(own:Own)(r:AV×Own),C.gi f vs own=some r->∀(us:Array Value)(w:World),(callFunc (num f) us).run P w = .ok (.enter (num f) us) w
 pure:∀(f:Nat)(vs:w_)(r:AV),C.pure f vs=some r->∀(S:Nat->Prop)(w:World)(us:List Value),I.ok w->vs.length=us.length->(∀(j:Nat)(c:AV)(v:Value),vs[j]?=some c->us[j]?=some v->CA w.heap.size S ⟨λ_ _=>none,Own.emp,w⟩ c v) ->
  Calls P (num f) us.toArray w λe w'=>∃u,e = .returned u/\D7 I.D w.heap.size w w'/\CV w.heap.size S ⟨λ_ _=>none,Own.emp,w'⟩ r u/\AY r
 gi:∀(f:Nat)(vs:w_)(own:Own)(r:AV)(q8:Own),C.gi f vs own=some (r,q8)->∀(B:Nat)(S:Nat->Prop)(w0:GG)(m:M)(us:List Value),I.b0<=B->I.ok w0.w->(w0.D->I.D)->m.own=own->BJ B S w0 m->vs.length=us.length->(∀(j:Nat)(c:AV)(v:Value),vs[j]?=some c->us[j]?=some v->CV B S m c v) ->
  Calls P (num f) us.toArray m.w λe w'=>∃u m',e = .returned u/\m'.w=w'/\m'.own=q8/\BJ B S w0 m'/\DB B S m m'/\CV B S m' r u
 cmp:tL P num C.cmp
 fm:∀(fs k:Nat),C.fo fs=some k->dQ P (num fs) k
 num:C.num=num
structure HU(I:E0)(P:Program)(num:Nat->Nat)(C:Cl)(B:Nat)(w0:GG):Prop where
 c:dA I P num C
 hB:I.b0<=B
 hw:I.ok w0.w
 hD:w0.D->I.D
theorem HU.ok{I:E0}{P:Program}{num:Nat->Nat}{C:Cl}{B:Nat}{S:Nat->Prop}{w0:GG}{m:M}(h:HU I P num C B w0)(hm:BJ B S w0 m):I.ok m.w:=I.pq _ _ h.hw (hm.below.toBelow.mono h.hB)
end
end Go.e9

namespace Go.e9
open Go.RowKit
theorem RC{α β:Type}(f:α->Option β):∀{l:List α}{l':List β},l.mapM f=some l'->l.length=l'.length/\∀(i:Nat)(x:α),l[i]?=some x->∃y,l'[i]?=some y/\f x=some y
 |[],l',h=>by
  simp at h;subst h;exact⟨rfl,λi x hx=>by simp at hx⟩
 |x::r,l',h=>by
  simp only[ub,qb,Eb]at h;cases hx:f x with
  |none=>simp[hx]at h
  |some y=>
   cases hr:r.mapM f with
   |none=>simp[hx,hr]at h
   |some r'=>
    simp[hx,hr]at h;subst h;obtain⟨h1,h2⟩:=RC f hr;refine⟨by simp[h1],λi z hz=>?_⟩;cases i with
    |zero=>simp at hz;subst hz;exact⟨y,rfl,hx⟩
    |succ i=>exact h2 i z (by simpa using hz)
section
variable {B:Nat} {S:Nat->Prop} {w0:GG} {m:M}
variable {P:Program} {num:Nat->Nat} {o:Oper} {a:Act} {ρ:AL->AV}
theorem Adh(hm:BJ B S w0 m)(l0:Bool)(R:Bool->Nat->Prop)(hR:∀l b,b<m.w.heap.size->safe B S m l b->R l b)(hL:∀s t g,live m s t->m.ν s t=some g->R l0 g) :
  ∀(d:Nat)(c c':AV)(v:Value),snap m.own l0 d c=some c'->CC B S m c v->Rd m.w R c' v:=by
 intro d;induction d with
 |zero=>
  intro c c' v h hc;cases hc with
  |rd hr=>
   have:c'=c:=by cases hr<;>simp[snap]at h<;>exact h.symm
   subst this;exact hr.mono hR (λ_ _ _ _=>rfl)
  |nil=>simp[snap]at h;subst h;exact .jl _ _ _
  |_=>simp[snap]at h
 |succ d ih=>
  intro c c' v h hc;cases hc with
  |rd hr=>
   have:c'=c:=by cases hr<;>simp[snap]at h<;>exact h.symm
   subst this;exact hr.mono hR (λ_ _ _ _=>rfl)
  |nil=>simp[snap]at h;subst h;exact .jl _ _ _
  |ptr=>simp[snap]at h
  |mp=>simp[snap]at h
  |z7=>simp[snap]at h
  |row s t z off len ad cap ht cz jz ha hb x6=>
   simp only[snap]at h;cases fc:FB m.own (.row s t z off len)with
   |none=>simp[fc]at h
   |some es=>
    simp only[fc]at h;cases fu:es.mapM (λcs:w_=>cs.mapM (snap m.own l0 d))with
    |none=>simp[fu]at h
    |some es'=>
     simp[fu]at h;subst h;have Qs:(∀e∈es,e.length=z)/\es.length=len/\∃b,m.own.get s t=some b:=by
      simp only[FB]at fc;cases o5:m.own.get s t with
      |none=>simp[o5]at fc
      |some b=>
       simp only[o5]at fc;split at fc
       ·rename_i hle
        obtain rfl:=na fc;refine⟨λe he=>?_,by simp;omega,b,rfl⟩;rw[<-hle.2];exact(hm.my o5 x6).1 e (Ed (Cb he))
       ·cases fc
     obtain⟨hz,hlen,b,o5⟩:=Qs;have y7:CV B S m (.row s t z off len) (.slice ad len cap):= .ca (.one (.row s t z off len ad cap ht cz jz ha hb x6));obtain⟨ad2,Bu,news,La,hE⟩:=mM hm y7 fc hz cz;obtain⟨rfl,_,rfl⟩:ad=ad2/\len=es.length/\cap=Bu:=by simpa using La
     obtain⟨ij,vy⟩:=RC _ fu;by_cases h0:es=[]
     ·subst h0
      have:es'=[]:=ma (by rw[<-ij];rfl)
      subst this;have:len=0:=by rw[<-hlen];rfl
      subst this;exact .jl _ _ _
     ·obtain⟨_,eo⟩:=hb b o5
      rcases eo with⟨ABX,_⟩|⟨g,arr,e',hg,ki,hh,Oc⟩
      ·exact absurd (ma O') h0
      ·rw[ki,<-hlen,ij]
       refine .sl l0 es' g (off*z) z cap (λi j=>news.getD (i*z+j) undef) (λe=>h0 (ma (by rw[ij,e];rfl))) cz (hL s t g ⟨b,o5⟩ hg) O' (λe' jb=>?_) (λi e hi j c hj=>?_) (λi e hi j c hj=>?_)
       ·obtain⟨i,hi,rfl⟩:=Lc jb
        have x5:i<es.length:=O'
        obtain⟨y,hy,gn⟩:=vy i es[i] (zE x5);have:es'[i]=y:=by
         have:=(zS hy).2;exact this
        rw[this,<-(RC _ gn).1];exact hz _ (eb x5)
       ·have x5:i<es.length:=by rw[ij];exact(zS hi).1
        obtain⟨y,hy,gn⟩:=vy i es[i] (zE x5);rw[hi]at hy;obtain rfl:e=y:=by simpa using hy
        obtain⟨jd,_⟩:=RC _ gn;have El:j<(es[i]).length:=by rw[jd];exact(zS hj).1
        obtain⟨u,hu,fq⟩:=hE.rel i es[i] (zE x5) j _ (zE El);have:=hE.cells _ ki (i*z+j) u hu
        rw[JA]at this;simp only[Me,hu,Gc];exact this
       ·have x5:i<es.length:=by rw[ij];exact(zS hi).1
        obtain⟨y,hy,gn⟩:=vy i es[i] (zE x5);rw[hi]at hy;obtain rfl:e=y:=by simpa using hy
        obtain⟨jd,jo⟩:=RC _ gn;have El:j<(es[i]).length:=by rw[jd];exact(zS hj).1
        obtain⟨u,hu,fq⟩:=hE.rel i es[i] (zE x5) j _ (zE El);obtain⟨c2,tu,zo⟩:=jo j _ (zE El);rw[hj]at tu;obtain rfl:c=c2:=by simpa using tu
        simp only[Me,hu,Gc];exact ih _ _ _ zo fq
def DA(w:World)(R:Bool->Nat->Prop)(c:AV)(v:Value):Prop :=
 Rd w R c v\/∃(cs:w_) (vs:List Value),c = .agg cs/\v = .agg vs.toArray/\cs.length=vs.length/\∀(j:Nat)(x:AV)(u:Value),cs[j]?=some x->vs[j]?=some u->Rd w R x u
theorem jS(hm:BJ B S w0 m)(l0:Bool)(R:Bool->Nat->Prop)(hR:∀l b,b<m.w.heap.size->safe B S m l b->R l b)(hL:∀s t g,live m s t->m.ν s t=some g->R l0 g)
  {c c':AV} {v:Value} (h:DD m.own l0 c=some c') (hc:CV B S m c v):DA m.w R c' v:=by
 cases hc with
 |any v=>simp[DD,snap]at h
 |j5=>simp[DD,snap]at h
 |ca hc=>cases hc with
  |one hc=>
   have h':snap m.own l0 6 c=some c':=by
    cases hc with
    |rd hr=>cases hr<;>simpa [DD]using h
    |_=>simpa [DD]using h
   exact Or.inl (Adh hm l0 R hR hL 6 c c' v h' hc)
  |fn=>simp[DD,snap]at h
  |um=>simp[DD,snap]at h
  |agg cs vs u6=>
   simp only[DD]at h;cases lu:cs.mapM (snap m.own l0 6)with
   |none=>simp[lu]at h
   |some gj=>
    simp[lu]at h;subst h;obtain⟨h1,h2⟩:=RC _ lu;refine Or.inr ⟨gj,vs,rfl,rfl,h1.symm.trans u6.1,λj x u hx hu=>?_⟩;have hj:j<cs.length:=by rw[h1];exact(zS hx).1
    obtain⟨y,hy,gn⟩:=h2 j cs[j] (zE hj);rw[hx]at hy;obtain rfl:x=y:=by simpa using hy
    exact Adh hm l0 R hR hL 6 _ _ _ gn (u6.2 j cs[j] u (zE hj) hu)
def DV(w:World)(R:Bool->Nat->Prop)(c:AV)(v:Value):Prop :=
 DA w R c v\/∃(cs:w_) (vs:List Value),c = .j5 cs/\v = .tuple vs.toArray/\cs.length=vs.length/\∀(j:Nat)(x:AV)(u:Value),cs[j]?=some x->vs[j]?=some u->DA w R x u
theorem Ano(hm:BJ B S w0 m)(l0:Bool)(R:Bool->Nat->Prop)(hR:∀l b,b<m.w.heap.size->safe B S m l b->R l b)(hL:∀s t g,live m s t->m.ν s t=some g->R l0 g)
  {c c':AV} {v:Value} (h:UY m.own l0 c=some c') (hc:CV B S m c v):DV m.w R c' v:=by
 by_cases ht:∃cs,c = .j5 cs
 ·obtain⟨cs,rfl⟩:=ht
  obtain⟨vs,rfl,hl,ck⟩:=lR hc;simp only[UY]at h;cases lu:cs.mapM (DD m.own l0)with
  |none=>simp[lu]at h
  |some gj=>
   simp[lu]at h;subst h;obtain⟨h1,h2⟩:=RC _ lu;refine Or.inr ⟨gj,vs,rfl,rfl,h1.symm.trans hl,λj x u hx hu=>?_⟩;have hj:j<cs.length:=by rw[h1];exact(zS hx).1
   obtain⟨y,hy,gn⟩:=h2 j cs[j] (zE hj);rw[hx]at hy;obtain rfl:x=y:=by simpa using hy
   exact jS hm l0 R hR hL gn (.ca (ck j cs[j] u (zE hj) hu))
 ·have h':DD m.own l0 c=some c':=by
   cases c<;>first|exact h|exact absurd ⟨_,rfl⟩ ht
  exact Or.inl (jS hm l0 R hR hL h' hc)
theorem DA.ca{B:Nat}{S:Nat->Prop}{m:M}{c:AV}{v:Value}(h:DA m.w (safe B S m) c v):CA B S m c v:=by
 rcases h with h|⟨cs,vs,rfl,rfl,hl,hh⟩
 ·exact .one (.rd h)
 ·exact .agg cs vs ⟨hl,λj x u hx hu=>.rd (hh j x u hx hu)⟩
theorem DV.cv{B:Nat}{S:Nat->Prop}{m:M}{c:AV}{v:Value}(h:DV m.w (safe B S m) c v):CV B S m c v:=by
 rcases h with h|⟨cs,vs,rfl,rfl,hl,hh⟩
 ·exact .ca h.ca
 ·exact .j5 cs vs hl λj x u hx hu=>(hh j x u hx hu).ca
theorem MN:∀{cs:w_},BK cs->∀(j:Nat)(c:AV),cs[j]?=some c->AY c
 |[],_,j,c,h=>by simp at h
 |x::r,hc,j,c,h=>by
  unfold BK at hc;cases j with
  |zero=>simp at h;subst h;exact hc.1
  |succ j=>exact MN hc.2 j c (by simpa using h)
theorem Z8:∀{cs:v_},DR cs->∀(j:Nat)(c:w_),cs[j]?=some c->BK c
 |[],_,j,c,h=>by simp at h
 |x::r,hc,j,c,h=>by
  unfold DR at hc;cases j with
  |zero=>simp at h;subst h;exact hc.1
  |succ j=>exact Z8 hc.2 j c (by simpa using h)
theorem Rd.clean{w:World}{R R':Bool->Nat->Prop}(hR:∀b,b<w.heap.size->R false b->R' false b){c:AV}{v:Value}(h:Rd w R c v)(hc:AY c):Rd w R' c v:=by
 induction h with
 |int k n=>exact .int k n
 |bool b=>exact .bool b
 |str s=>exact .str s
 |ni=>exact .ni
 |nj=>exact .nj
 |jl l a cap=>exact .jl l a cap
 |emp b a cap h=>exact .emp b a cap h
 |sl l es b o a7 cap u q6 hp h1 cj hz u6 hr ih=>
  unfold AY at hc;obtain⟨rfl,hc⟩:=hc;obtain⟨e,c,he,fb⟩:=aS q6 hp hz;have hb:b<w.heap.size:=RZ (u6 0 e he 0 c fb);exact .sl false es b o a7 cap u q6 hp (hR b hb h1) cj hz u6 λi e he j c hj=>ih i e he j c hj (MN (Z8 hc i e he) j c hj)
theorem DA.clean{w:World}{R R':Bool->Nat->Prop}(hR:∀b,b<w.heap.size->R false b->R' false b){c:AV}{v:Value}(h:DA w R c v)(hc:AY c):DA w R' c v:=by
 rcases h with h|⟨cs,vs,rfl,rfl,hl,hh⟩
 ·exact Or.inl (h.clean hR hc)
 ·unfold AY at hc
  exact Or.inr ⟨cs,vs,rfl,rfl,hl,λj x u hx hu=>(hh j x u hx hu).clean hR (MN hc j x hx)⟩
theorem DV.clean{w:World}{R R':Bool->Nat->Prop}(hR:∀b,b<w.heap.size->R false b->R' false b){c:AV}{v:Value}(h:DV w R c v)(hc:AY c):DV w R' c v:=by
 rcases h with h|⟨cs,vs,rfl,rfl,hl,hh⟩
 ·exact Or.inl (h.clean hR hc)
 ·unfold AY at hc
  exact Or.inr ⟨cs,vs,rfl,rfl,hl,λj x u hx hu=>(hh j x u hx hu).clean hR (MN hc j x hx)⟩
theorem lQ{B:Nat}{S:Nat->Prop}{m:M}{c:AV}{v:Value}(h:CV B S m c v)(hc:AY c):DV m.w (safe B S m) c v:=by
 have one:∀{c:AV}{v:Value},CC B S m c v->AY c->Rd m.w (safe B S m) c v:=λh hc=>by
  cases h with
  |rd h=>exact h
  |_=>unfold AY at hc;exact hc.elim
 have ca:∀{c:AV}{v:Value},CA B S m c v->AY c->DA m.w (safe B S m) c v:=λh hc=>by
  cases h with
  |one h=>exact Or.inl (one h hc)
  |fn=>unfold AY at hc;exact hc.elim
  |um=>unfold AY at hc;exact hc.elim
  |agg cs vs h=>
   unfold AY at hc;exact Or.inr ⟨cs,vs,rfl,rfl,h.1,λj x u hx hu=>one (h.2 j x u hx hu) (MN hc j x hx)⟩
 cases h with
 |any v=>unfold AY at hc;exact hc.elim
 |ca h=>exact Or.inl (ca h hc)
 |j5 as vs hl h=>
  unfold AY at hc;exact Or.inr ⟨as,vs,rfl,rfl,hl,λj x u hx hu=>ca (h j x u hx hu) (MN hc j x hx)⟩
theorem Y5{f:Nat}{xs:Array Operand}{ts:Array TypeId}(o9:o.op = .call ⟨.value (.func f),xs,ts⟩){w:World}(h:(callFunc f (xs.map a.eval)).run P w = .ok (.enter f (xs.map a.eval)) w):(execOp a.eval o).run P w = .ok (.enter f (xs.map a.eval)) w:=by
 simp[execOp,o9,resolve,Deferred.ofValue,Act.eval,invoke];exact h
theorem xC{C:Cl}{I:E0}(hC:HU I P num C B w0)(hm:BJ B S w0 m){f:Nat}{us:List Value}{as:w_}(hl:us.length=as.length)(hx:∀(j:Nat)(v:Value)(c:AV),us[j]?=some v->as[j]?=some c->CV B S m c v)(hex:∀w:World,(callFunc (num f) us.toArray).run P w = .ok (.enter (num f) us.toArray) w->(execOp a.eval o).run P w = .ok (.enter (num f) us.toArray) w){vs:w_}{r:AV}(hv:as.mapM (DD m.own true)=some vs)(hr:C.pure f vs=some r):CQ B S w0 P o a m (.val r):=by
 obtain⟨jd,jo⟩:=RC _ hv;have mj:∀(j:Nat)(c:AV)(v:Value),vs[j]?=some c->us[j]?=some v->CA m.w.heap.size (safe B S m false) ⟨λ_ _=>none,Own.emp,m.w⟩ c v:=by
  intro j c v hc qi;have fe:j<as.length:=by rw[<-hl];exact(zS qi).1
  obtain⟨y,hy,gn⟩:=jo j as[j] (zE fe);rw[hc]at hy;obtain rfl:c=y:=by simpa using hy
  have y7:=hx j v as[j] qi (zE fe);have xy:=jS hm true (safe m.w.heap.size (safe B S m false) ⟨λ_ _=>none,Own.emp,m.w⟩) (λl b hb wy=>by
   cases l with
   |false=>exact .inl ⟨wy,hb⟩
   |true=>exact .inr (.inr ⟨rfl,hb⟩)) (λs t g js hg=>by
   obtain⟨_,x0,hh⟩:=hm.ge js hg;exact .inr (.inr ⟨rfl,(xa.1 hh).1⟩)) gn y7
  exact DA.ca (m:=⟨λ_ _=>none,Own.emp,m.w⟩) xy
 have dz:=hC.c.pure f vs r hr (safe B S m false) m.w us (hC.ok hm) (by rw[<-jd];exact hl.symm) mj;intro K Q hK;unfold Oper.wp;rw[hex _ (hC.c.qy f vs r hr _ _)];refine Calls.mono dz λe w' ⟨u,jb,fx,y7,u6⟩=>?_
 subst jb;obtain⟨lj,fy⟩:=grow hm (fx.Jn hC.hD);refine hK u ⟨m.ν,m.own,w'⟩ rfl lj fy ?_;refine DV.cv (m:=⟨m.ν,m.own,w'⟩) ((lQ y7 u6).clean (λb hb wy=>?_) u6);rcases wy with⟨h1,h2⟩|⟨h1,_⟩|⟨h1,_⟩
 ·exact fy.Bl false b h2 h1
 ·refine .inr (.inl ⟨db hm.size h1,λs t js hg=>?_⟩)
  obtain⟨b',j9⟩:=Ma.1 js;obtain⟨_,x0,hh⟩:=hm.ge ⟨b',j9⟩ hg;have:=(xa.1 hh).1
  omega
 ·cases h1
theorem xB{C:Cl}{I:E0}(hC:HU I P num C B w0)(hm:BJ B S w0 m)(hs:CM B S m ρ a.eval){f:Nat}{xs:Array Operand}{xs':List AL}(he:EW xs.toList xs'=true)(hex:∀w:World,(callFunc (num f) (xs.map a.eval)).run P w = .ok (.enter (num f) (xs.map a.eval)) w->(execOp a.eval o).run P w = .ok (.enter (num f) (xs.map a.eval)) w){vs:w_}{r:AV}(hv:(xs'.map ρ).mapM (DD m.own true)=some vs)(hr:C.pure f vs=some r):CQ B S w0 P o a m (.val r):=by
 obtain⟨hl,hx⟩:=R9 hs he;have bq:(xs.map a.eval)=(xs.toList.map a.eval).toArray:=by cases xs;simp
 rw[bq]at hex;refine xC hC hm (us:=xs.toList.map a.eval) (as:=xs'.map ρ) (by simp[hl]) (λj v c h1 h2=>?_) hex hv hr;rw[ja]at h1 h2;cases mr:xs.toList[j]? with
 |none=>simp[mr]at h1
 |some x=>
  cases qj:xs'[j]? with
  |none=>simp[qj]at h2
  |some y=>
   simp only[mr,qj,Ia,za]at h1 h2;subst h1 h2;exact hx j x y mr qj
theorem Ahy{C:Cl}{I:E0}(hC:HU I P num C B w0)(hm:BJ B S w0 m)(hs:CM B S m ρ a.eval){f:Nat}{xs':List AL}(h:A9 P num o.op (.call f xs')=true){vs:w_}{r:AV}(hv:(xs'.map ρ).mapM (DD m.own true)=some vs)(hr:C.pure f vs=some r):CQ B S w0 P o a m (.val r):=by
 obtain⟨xs,ts,o9,he⟩:=gQ h;exact xB hC hm hs he (λw h=>Y5 o9 h) hv hr
theorem mF{C:Cl}{I:E0}(hC:HU I P num C B w0)(hm:BJ B S w0 m)(hs:CM B S m ρ a.eval){f:Nat}{xs':List AL}(h:A9 P num o.op (.j6 f xs')=true){r:AV}{q8:Own}(hr:C.gi f (xs'.map ρ) m.own=some (r,q8)):CQ B S w0 P o a m (.cn r q8):=by
 obtain⟨xs,ts,o9,he⟩:=AkN h;obtain⟨hl,hx⟩:=R9 hs he;have bq:(xs.map a.eval)=(xs.toList.map a.eval).toArray:=by cases xs;simp
 have dz:=hC.c.gi f (xs'.map ρ) m.own r q8 hr B S w0 m (xs.toList.map a.eval) hC.hB hC.hw hC.hD rfl hm (by simp[hl]) (λj c v hc hv=>by
  rw[ja]at hc hv;cases mr:xs.toList[j]? with
  |none=>simp[mr]at hv
  |some x=>
   cases qj:xs'[j]? with
   |none=>simp[qj]at hc
   |some y=>
    simp[mr]at hv;simp[qj]at hc;subst hv hc;exact hx j x y mr qj)
 intro K Q hK;unfold Oper.wp;rw[Y5 o9 (hC.c.qw f _ _ _ hr _ _),bq];refine Calls.mono dz λe w' ⟨u,m',jb,hw,l8,lj,fy,y7⟩=>?_
 subst jb hw;exact hK u m' l8 lj fy y7
theorem Af1(hm:BJ B S w0 m){w':World}(hb:D7 w0.D m.w.heap.size m.w w')(s:Nat)(x6:s<EP)(b:DI)(gg:Option Nat)(hz:∀x∈b.es,x.length=b.a7)
  (hg:match gg with|none=>b.es=[]|some g=>m.w.heap.size<=g/\∃arr e,w'.heap[g]?=some (.cells arr e (0,0))/\∀i cs,b.es[i]?=some cs->∀j c,cs[j]?=some c->∃u,arr[i*b.a7+j]?=some u/\CC B S ⟨k6 m s gg,m.own.put s ((m.own s).new b),w'⟩ c u) :
  BJ B S w0 ⟨k6 m s gg,m.own.put s ((m.own s).new b),w'⟩/\DB B S m ⟨k6 m s gg,m.own.put s ((m.own s).new b),w'⟩:=by
 have hν:∀s' t',live m s' t'->k6 m s gg s' t'=m.ν s' t':=λs' t' hl=>by
  unfold k6;rw[if_neg];rintro⟨rfl,rfl⟩
  exact bK hm _ hl
 have iw:∀g,gg=some g->m.w.heap.size<=g:=λg e=>by subst e;exact hg.1
 have he:DB B S m ⟨k6 m s gg,m.own.put s ((m.own s).new b),w'⟩:=by
  refine OS hm hb.size (λk hk _=>hb.block k hk) (λs'=>?_) (λs' t' b' ht j9=>?_) (λs' t' g hl di k7=>?_)
  ·rw[KY];split
   ·rename_i h;subst h;omega
   ·exact ga _
  ·rw[GA]at j9
   rw[if_neg (by rintro⟨rfl,rfl⟩;omega)]at j9;refine⟨b',j9,rfl,hν s' t' ⟨b',j9⟩,λg ar e' di ha=>⟨ar,?_,rfl⟩⟩;exact(hb.block g (xa.1 ha).1).trans ha
  ·obtain⟨b',j9⟩:=hl
   rw[GA]at j9;by_cases h:s'=s/\t'=m.own.j7 s
   ·simp only[k6,if_pos h]at di
    have:=iw g di
    omega
   ·rw[if_neg h]at j9
    exact⟨s',t',⟨b',j9⟩,by rw[<-hν s' t' ⟨b',j9⟩];exact di⟩
 refine⟨⟨hm.below.trans (hb.mono hm.size),db hm.size hb.size,λs' t' ht=>?_,λs' t' b' j9=>?_,λs1 t1 s2 t2 b1 b2 g h1 h2 g1 g2=>?_⟩,he⟩
 ·rw[KY]at ht
  rw[GA,if_neg]
  ·refine hm.fresh s' t' ?_
   split at ht
   ·rename_i h;subst h;omega
   ·exact ht
  ·rintro⟨rfl,rfl⟩
   simp at ht;omega
 ·rw[GA]at j9
  by_cases h:s'=s/\t'=m.own.j7 s
  ·rw[if_pos h]at j9
   obtain rfl:b=b':=by simpa using j9
   refine⟨λ_=>⟨hz,?_⟩,λiw=>by have:=h.1;omega⟩;show match k6 m s gg s' t' with|none=>_|some g=>_
   rw[show k6 m s gg s' t'=gg by simp[k6,h]];cases gg with
   |none=>exact hg
   |some g=>exact⟨db hm.size hg.1,hg.2⟩
  ·rw[if_neg h]at j9
   exact(hm.c9 s' t' b' j9).ext he (hν s' t' ⟨b',j9⟩) λg x _ hx=>(hb.block g (xa.1 hx).1).trans hx
 ·rw[GA]at h1 h2
  have lt:∀s' t' b',m.own.get s' t'=some b'->k6 m s gg s' t'=some g->g<m.w.heap.size:=λs' t' b' j9 di=>by
   rw[hν s' t' ⟨b',j9⟩]at di;obtain⟨_,x0,h4⟩:=hm.ge ⟨b',j9⟩ di;exact(xa.1 h4).1
  have at_:∀s' t',s'=s/\t'=m.own.j7 s->k6 m s gg s' t'=some g->m.w.heap.size<=g:=λs' t' h di=>by
   simp only[k6,if_pos h]at di;exact iw g di
  by_cases p1:s1=s/\t1=m.own.j7 s<;>by_cases p2:s2=s/\t2=m.own.j7 s
  ·exact⟨p1.1.trans p2.1.symm,p1.2.trans p2.2.symm⟩
  ·rw[if_neg p2]at h2
   have:=lt s2 t2 b2 h2 g2
   have:=at_ s1 t1 p1 g1
   omega
  ·rw[if_neg p1]at h1
   have:=lt s1 t1 b1 h1 g1
   have:=at_ s2 t2 p2 g2
   omega
  ·rw[if_neg p1]at h1
   rw[if_neg p2]at h2;exact hm.inj s1 t1 s2 t2 b1 b2 g h1 h2 (by rw[<-hν s1 t1 ⟨b1,h1⟩];exact g1) (by rw[<-hν s2 t2 ⟨b2,h2⟩];exact g2)
theorem AhC{C:Cl}{I:E0}(hC:HU I P num C B w0)(hm:BJ B S w0 m)(hs:CM B S m ρ a.eval){s f:Nat}(x6:s<EP){xs':List AL}(h:A9 P num o.op (.y5 s f xs')=true){vs:w_}(hv:(xs'.map ρ).mapM (QI m.own true)=some vs){z:Nat}{es:v_}(hr:OL (C.gi f vs Own.emp)=some (z,es)) :
  CQ B S w0 P o a m (.new s ⟨z,es⟩ (λt=>.row s t z 0 es.length)):=by
 obtain⟨xs,ts,o9,he⟩:=gQ (AkP h);obtain⟨s0,t0,o',b0,ig,o5,rfl,u6⟩:=Af0 hr;obtain⟨hl,hx⟩:=R9 hs he;obtain⟨jd,jo⟩:=RC _ hv;have bq:(xs.map a.eval)=(xs.toList.map a.eval).toArray:=by cases xs;simp
 have mj:∀(j:Nat)(c:AV)(v:Value),vs[j]?=some c->(xs.toList.map a.eval)[j]?=some v->CV m.w.heap.size (safe B S m false) ⟨λ_ _=>none,Own.emp,m.w⟩ c v:=by
  intro j c v hc qi;rw[ja]at qi;cases mr:xs.toList[j]? with
  |none=>simp[mr]at qi
  |some x=>
   simp[mr]at qi;subst qi;have fe:j<xs'.length:=by rw[<-hl];exact(zS mr).1
   obtain⟨y,hy,gn⟩:=jo j (ρ xs'[j]) (by rw[ja,zE fe];rfl);rw[hc]at hy;obtain rfl:c=y:=by simpa using hy
   have y7:=hx j x xs'[j] mr (zE fe);have hN:(ρ xs'[j] = .nil/\c = .nil)\/DD m.own true (ρ xs'[j])=some c:=by
    cases e:ρ xs'[j]with
    |nil=>rw[e]at gn;exact .inl ⟨rfl,(na gn).symm⟩
    |_=>rw[e]at gn;exact .inr gn
   rcases hN with⟨e1,rfl⟩|gn
   ·rw[e1]at y7
    rw[VV y7];exact .ca (.one .nil)
   have xy:=jS hm true (safe m.w.heap.size (safe B S m false) ⟨λ_ _=>none,Own.emp,m.w⟩) (λl b hb wy=>by
    cases l with
    |false=>exact .inl ⟨wy,hb⟩
    |true=>exact .inr (.inr ⟨rfl,hb⟩)) (λs t g js hg=>by
    obtain⟨_,x0,hh⟩:=hm.ge js hg;exact .inr (.inr ⟨rfl,(xa.1 hh).1⟩)) gn y7
   exact .ca (DA.ca (m:=⟨λ_ _=>none,Own.emp,m.w⟩) xy)
 have Cw:BJ m.w.heap.size (safe B S m false) ⟨m.w,w0.D⟩ ⟨λ_ _=>none,Own.emp,m.w⟩:=⟨D7.refl _ _ _,ga _,λ_ _ _=>rfl,(λs t b h=>by cases h),(λ_ _ _ _ _ _ _ h=>by cases h)⟩;have dz:=hC.c.gi f vs Own.emp _ o' ig m.w.heap.size (safe B S m false) ⟨m.w,w0.D⟩ ⟨λ_ _=>none,Own.emp,m.w⟩ (xs.toList.map a.eval) (I.size _ (hC.ok hm)) (hC.ok hm) hC.hD rfl Cw (by rw[<-jd];simp[hl]) mj;intro K Q hK;unfold Oper.wp;rw[Y5 o9 (hC.c.qw f _ _ _ ig _ _),bq];refine Calls.mono dz λe w' ⟨u,m',jb,hw,l8,lj,ApS,y7⟩=>?_
 subst jb hw;have fx:D7 w0.D m.w.heap.size m.w m'.w:=lj.below;rw[<-l8]at o5;obtain⟨hz,hblk⟩:=lj.my o5 (VW y7);obtain⟨ad,cap,rfl,ht,cz,jz,ha,hb⟩:=QX y7;obtain⟨gu,eo⟩:=hb b0 o5;subst gu;have hold:∀s t g,live m s t->m.ν s t=some g->g<m.w.heap.size:=λs t g js hg=>by
  obtain⟨_,x0,hh⟩:=hm.ge js hg;exact(xa.1 hh).1
 have Cv:∀s' t' g,live ⟨k6 m s (m'.ν s0 t0),m.own.put s ((m.own s).new ⟨b0.a7,b0.es⟩),m'.w⟩ s' t'->k6 m s (m'.ν s0 t0) s' t'=some g->g<m.w.heap.size\/m'.ν s0 t0=some g:=λs' t' g js hg=>by
  obtain⟨b',j9⟩:=js;rw[GA]at j9;by_cases o7:s'=s/\t'=m.own.j7 s
  ·simp only[k6,if_pos o7]at hg
   exact Or.inr hg
  ·rw[if_neg o7]at j9
   simp only[k6,if_neg o7]at hg;exact Or.inl (hold s' t' g ⟨b',j9⟩ hg)
 have hR:∀b,b<m'.w.heap.size->safe m.w.heap.size (safe B S m false) m' false b->safe B S ⟨k6 m s (m'.ν s0 t0),m.own.put s ((m.own s).new ⟨b0.a7,b0.es⟩),m'.w⟩ false b:=λb Cm wy=>by
  rcases wy with⟨h1,h2⟩|⟨h1,h2⟩|⟨h1,_⟩
  ·rcases h1 with h1|⟨h1,h3⟩|⟨h1,_⟩
   ·exact .inl h1
   ·refine .inr (.inl ⟨h1,λs' t' js hg=>?_⟩)
    obtain⟨b',j9⟩:=Ma.1 js;have w7:=j9;rw[GA]at w7;by_cases o7:s'=s/\t'=m.own.j7 s
    ·simp only[k6,if_pos o7]at hg
     rw[hg]at hblk;have:=hblk.1
     omega
    ·rw[if_neg o7]at w7
     simp only[k6,if_neg o7]at hg;exact h3 s' t' (by rw[w7];rfl) hg
   ·cases h1
  ·refine .inr (.inl ⟨db hm.size h1,λs' t' js hg=>?_⟩)
   rcases Cv s' t' b (Ma.1 js) hg with h3|h3
   ·omega
   ·exact h2 s0 t0 (by rw[o5];rfl) h3
  ·cases h1
 obtain⟨bu,fy⟩:=Af1 hm fx s x6 ⟨b0.a7,b0.es⟩ (m'.ν s0 t0) hz (by
  cases hν:m'.ν s0 t0 with
  |none=>rw[hν]at hblk;exact hblk
  |some g=>
   rw[hν]at hblk hR;obtain⟨h1,arr,e,h2,h3⟩:=hblk;refine⟨h1,arr,e,h2,λi cs hi j c hj=>?_⟩;obtain⟨u,hu,ck⟩:=h3 i cs hi j c hj;refine⟨u,hu,.rd ?_⟩;have Cn:=MN (Z8 u6 i cs hi) j c hj;have ko:Rd m'.w (safe m.w.heap.size (safe B S m false) m') c u:=by
    cases ck with
    |rd h=>exact h
    |_=>unfold AY at Cn;exact Cn.elim
   exact ko.clean hR Cn)
 refine hK _ ⟨k6 m s (m'.ν s0 t0),m.own.put s ((m.own s).new ⟨b0.a7,b0.es⟩),m'.w⟩ rfl bu fy (.ca (.one (.row s (m.own.j7 s) b0.a7 0 b0.es.length ad cap (by show m.own.j7 s<Own.j7 (m.own.put s _) s;rw[KY,if_pos rfl];omega) cz jz ha (λb1 qe=>?_) x6)));have Gv:(m.own.put s ((m.own s).new ⟨b0.a7,b0.es⟩)).get s (m.own.j7 s)=some b1:=qe;rw[GA,if_pos ⟨rfl,rfl⟩]at Gv;obtain rfl:=na Gv;refine⟨rfl,?_⟩;rcases eo with h0|⟨g,arr,e,hg,ki,hh,hle⟩
 ·exact .inl h0
 ·exact .inr ⟨g,arr,e,by simp[k6,hg],ki,hh,hle⟩
theorem wE{p:Bool}{f g:Nat}{cs:w_}{v:Value}(h:CV B S m (.fn p f g cs) v)(hp:p=false\/cs=[]):∃vs:List Value,v = .func (.func g) #[] vs.toArray/\CL B S m cs vs:=by
 cases h with
 |ca h=>cases h with
  |one h=>cases h with
   |rd h=>cases h
  |fn p f g cs vs hp h=>exact⟨vs,rfl,h⟩
  |um f g cs vs q6 h=>
   rcases hp with hp|hp
   ·cases hp
   ·exact absurd hp q6
theorem Ag6{f g:Nat}{cs:w_}{v:Value}(h:CV B S m (.fn true f g cs) v)(q6:cs≠[]):∃vs:List Value,v = .func (.func g) #[.agg vs.toArray] #[]/\CL B S m cs vs:=by
 cases h with
 |ca h=>cases h with
  |one h=>cases h with
   |rd h=>cases h
  |fn p f g cs vs hp h=>exact absurd (hp rfl) q6
  |um f g cs vs q6 h=>exact⟨vs,rfl,h⟩
theorem Xi{f:Nat}{x:Operand}{xs:Array Operand}{ts:Array TypeId}{vs:Array Value}(o9:o.op = .call ⟨.value x,xs,ts⟩)(hx:a.eval x = .func (.func f) #[] vs){w:World}(h:(callFunc f (xs.map a.eval++vs)).run P w = .ok (.enter f (xs.map a.eval++vs)) w):(execOp a.eval o).run P w = .ok (.enter f (xs.map a.eval++vs)) w:=by
 simp[execOp,o9,resolve,Deferred.ofValue,hx,invoke];exact h
theorem AhD{C:Cl}{I:E0}(hC:HU I P num C B w0)(hm:BJ B S w0 m)(hs:CM B S m ρ a.eval){x':AL}{xs':List AL}(h:A9 P num o.op (.v8 x' xs')=true){f:Nat}{cs:w_}(hf:ρ x' = .fn false f (num f) cs){r:AV}{q8:Own}(hr:C.gi f (xs'.map ρ++cs) m.own=some (r,q8)):CQ B S w0 P o a m (.cn r q8):=by
 obtain⟨x,xs,ts,o9,nz,he⟩:=oM h;obtain⟨hl,hx⟩:=R9 hs he;obtain⟨vs,hv,u6⟩:=wE (hf▸hs x x' nz) (.inl rfl);have bq:(xs.map a.eval++vs.toArray)=(xs.toList.map a.eval++vs).toArray:=by cases xs;simp
 have dz:=hC.c.gi f (xs'.map ρ++cs) m.own r q8 hr B S w0 m (xs.toList.map a.eval++vs) hC.hB hC.hw hC.hD rfl hm (by simp[hl,u6.1]) (λj c v hc hv=>by
  by_cases hj:j<xs'.length
  ·rw[Na (by simpa using hj),ja]at hc
   rw[Na (by simpa [hl]using hj),ja]at hv;have En:j<xs.toList.length:=by rw[hl];exact hj
   rw[zE hj]at hc;rw[zE En]at hv;simp only[Ia,za]at hc hv;subst hc hv;exact hx j _ _ (zE En) (zE hj)
  ·rw[Ja (by simpa using hj),Nb]at hc
   rw[Ja (by simpa [hl]using hj),Nb,hl]at hv;exact .ca (.one (u6.2 _ c v hc hv)))
 intro K Q hK;unfold Oper.wp;rw[Xi o9 hv (hC.c.qw f _ _ _ hr _ _),bq];refine Calls.mono dz λe w' ⟨u,m',jb,hw,l8,lj,fy,y7⟩=>?_
 subst jb hw;exact hK u m' l8 lj fy y7
theorem AhA{C:Cl}{I:E0}(hC:HU I P num C B w0)(hm:BJ B S w0 m)(hs:CM B S m ρ a.eval){x':AL}{xs':List AL}(h:A9 P num o.op (.v8 x' xs')=true){f:Nat}(hf:ρ x' = .fn true f (num f) []){vs:w_}{r:AV}(hv:(xs'.map ρ).mapM (DD m.own true)=some vs)(hr:C.pure f vs=some r):CQ B S w0 P o a m (.val r):=by
 obtain⟨x,xs,ts,o9,nz,he⟩:=oM h;obtain⟨us,hu,u6⟩:=wE (hf▸hs x x' nz) (.inr rfl);have hu0:us=[]:=ma (by rw[<-u6.1];rfl);subst hu0;refine xB hC hm hs he (λw h=>?_) hv hr;have:=Xi (P:=P) (w:=w) o9 hu (by simpa using h)
 simpa using this
theorem AmZ{f:Nat}{x:Operand}{xs:Array Operand}{ts:Array TypeId}{u:Value}(o9:o.op = .call ⟨.value x,xs,ts⟩)(hx:a.eval x = .func (.func f) #[u] #[]){w:World}(h:(callFunc f (#[u]++xs.map a.eval)).run P w = .ok (.enter f (#[u]++xs.map a.eval)) w):(execOp a.eval o).run P w = .ok (.enter f (#[u]++xs.map a.eval)) w:=by
 simp[execOp,o9,resolve,Deferred.ofValue,hx,invoke];exact h
theorem Ahz{C:Cl}{I:E0}(hC:HU I P num C B w0)(hm:BJ B S w0 m)(hs:CM B S m ρ a.eval){x':AL}{xs':List AL}(h:A9 P num o.op (.v8 x' xs')=true){f:Nat}{c:AV}{cs:w_}(hf:ρ x' = .fn true f (num f) (c::cs)){vs:w_}{r:AV}(hv:(AV.agg (c::cs)::xs'.map ρ).mapM (DD m.own true)=some vs)(hr:C.pure f vs=some r):CQ B S w0 P o a m (.val r):=by
 obtain⟨x,xs,ts,o9,nz,he⟩:=oM h;obtain⟨us,hu,u6⟩:=Ag6 (hf▸hs x x' nz) Z';obtain⟨hl,hx⟩:=R9 hs he;have bq:(#[Value.agg us.toArray]++xs.map a.eval)=(Value.agg us.toArray::xs.toList.map a.eval).toArray:=by cases xs;simp
 refine xC hC hm (us:=Value.agg us.toArray::xs.toList.map a.eval) (as:=AV.agg (c::cs)::xs'.map ρ) (by simp[hl]) (λj v c' h1 h2=>?_) (λw h=>by
  rw[<-bq]at h⊢;exact AmZ o9 hu h) hv hr
 cases j with
 |zero=>
  simp only[List.getElem?_cons_zero,za]at h1 h2;subst h1 h2;exact .ca (.agg _ _ u6)
 |succ j=>
  rw[List.getElem?_cons_succ,ja]at h1 h2;cases mr:xs.toList[j]? with
  |none=>simp[mr]at h1
  |some x=>
   cases qj:xs'[j]? with
   |none=>simp[qj]at h2
   |some y=>
    simp only[mr,qj,Ia,za]at h1 h2;subst h1 h2;exact hx j x y mr qj
theorem Rd.to1{w:World}{R R':Bool->Nat->Prop}(hR:∀l b,b<w.heap.size->R l b->∀l',R' l' b){c:AV}{v:Value}(h:Rd w R c v)(hq:HD c=true):Rd w R' (ZH c) v:=by
 cases h with
 |int k n=>exact .int k n
 |bool b=>exact .bool b
 |str s=>simp[HD]at hq
 |ni=>simp[HD]at hq
 |nj=>simp[HD]at hq
 |emp=>simp[HD]at hq
 |jl l a cap=>exact .jl false a cap
 |sl l es b o a7 cap u q6 hp h1 cj hz u6 hr=>
  obtain⟨e,c,he,fb⟩:=aS q6 hp hz;have hb:b<w.heap.size:=RZ (u6 0 e he 0 c fb);exact .sl false es b o a7 cap u q6 hp (hR l b hb h1 false) cj hz u6 λi e he j c hj=>(hr i e he j c hj).mono (λl b hb h=>hR l b hb h l) (λ_ _ _ _=>rfl)
theorem Rd.Af{w:World}{R R':Bool->Nat->Prop}(hR:∀b,b<w.heap.size->R false b->R' true b){c:AV}{v:Value}(h:Rd w R c v)(hc:AY c)(hf:ZR c):Rd w R' (bE c) v:=by
 cases h with
 |int k n=>exact .int k n
 |bool b=>exact .bool b
 |str s=>exact hf.elim
 |ni=>exact hf.elim
 |nj=>exact hf.elim
 |emp=>exact hf.elim
 |jl l a cap=>exact .jl true a cap
 |sl l es b o a7 cap u q6 hp h1 cj hz u6 hr=>
  unfold AY at hc;obtain⟨rfl,hc⟩:=hc;obtain⟨e,c,he,fb⟩:=aS q6 hp hz;have hb:b<w.heap.size:=RZ (u6 0 e he 0 c fb);refine .sl true es b o a7 cap u q6 hp (hR b hb h1) cj hz u6 λi e he j c hj=>?_
  have Hx:=hf e (zM he) c (zM hj);have Dk:=hr i e he j c hj;generalize u i j=vv at Dk⊢;cases Dk<;>first|exact .int _ _|exact .bool _|(simp[RF]at Hx)
theorem oX:∀l:w_,JJ l=l.map H1
 |[]=>by simp[JJ]
 |c::r=>by rw[JJ,oX r];rfl
theorem Wl:∀l:v_,IZ l=l.map λe=>e.map H1
 |[]=>by simp[IZ]
 |c::r=>by rw[IZ,Wl r,oX];rfl
theorem Rd.Ag{w:World}{R R':Bool->Nat->Prop}(hR:∀b,b<w.heap.size->R false b->R' true b){c:AV}{v:Value}(h:Rd w R c v):AY c->Rd w R' (H1 c) v:=by
 induction h with
 |int k n=>intro _;exact .int k n
 |bool b=>intro _;exact .bool b
 |str s=>intro _;exact .str s
 |ni=>intro _;exact .ni
 |nj=>intro _;exact .nj
 |emp b a cap h=>intro _;exact .emp b a cap h
 |jl l a cap=>intro _;exact .jl true a cap
 |sl l es b o a7 cap u q6 hp h1 cj hz u6 hr ih=>
  intro hc;unfold AY at hc;obtain⟨rfl,hc⟩:=hc;obtain⟨e,c,he,fb⟩:=aS q6 hp hz;have hb:b<w.heap.size:=RZ (u6 0 e he 0 c fb);have gk:∀(i:Nat)(e':w_),(es.map λe:w_=>e.map H1)[i]?=some e'->∃e,es[i]?=some e/\e'=e.map H1:=λi e' h=>by
   rw[ja]at h;cases hi:es[i]? with
   |none=>simp[hi]at h
   |some e=>exact⟨e,rfl,by simpa [hi]using h.symm⟩
  have Gu:∀(e:w_)(j:Nat)(c':AV),(e.map H1)[j]?=some c'->∃c,e[j]?=some c/\c'=H1 c:=λe j c' h=>by
   rw[ja]at h;cases hi:e[j]? with
   |none=>simp[hi]at h
   |some c=>exact⟨c,rfl,by simpa [hi]using h.symm⟩
  have key:=Rd.sl (w:=w) (R:=R') true (es.map λe:w_=>e.map H1) b o a7 cap u (by simpa using q6) hp (hR b hb h1) (by simpa using cj)
   (λe' jb=>by
    obtain⟨e,he,rfl⟩:=Lb.1 jb;rw[Nb];exact hz e he)
   (λi e' hi j c' hj=>by
    obtain⟨e,he,rfl⟩:=gk i e' hi;obtain⟨c,Eh,rfl⟩:=Gu e j c' hj;exact u6 i e he j c Eh)
   (λi e' hi j c' hj=>by
    obtain⟨e,he,rfl⟩:=gk i e' hi;obtain⟨c,Eh,rfl⟩:=Gu e j c' hj;exact ih i e he j c Eh (MN (Z8 hc i e he) j c Eh))
  rw[Nb]at key;rw[H1,Wl];exact key
theorem AhB{C:Cl}{I:E0}(hC:HU I P num C B w0)(hm:BJ B S w0 m)(hs:CM B S m ρ a.eval){f:Nat}{xs':List AL}(h:A9 P num o.op (.o8 f xs')=true)(hq:(xs'.map ρ).all dq=true){r:AV}(hr:C.pure f ((xs'.map ρ).map yg)=some r)(Oj:KS r\/U9 r):CQ B S w0 P o a m (.val (N3 r)):=by
 obtain⟨xs,ts,o9,he⟩:=gQ (AkO h);obtain⟨hl,hx⟩:=R9 hs he;have bq:(xs.map a.eval)=(xs.toList.map a.eval).toArray:=by cases xs;simp
 have hR:∀l b,b<m.w.heap.size->safe B S m l b->∀l',safe m.w.heap.size (safe B S m true) ⟨λ_ _=>none,Own.emp,m.w⟩ l' b:=λl b hb h l'=>.inl ⟨rK h,hb⟩
 have hcell:∀(c:AV)(v:Value),CC B S m c v->HD c=true->Rd m.w (safe m.w.heap.size (safe B S m true) ⟨λ_ _=>none,Own.emp,m.w⟩) (ZH c) v:=λc v hc hd=>by
  cases hc with
  |rd hr=>exact hr.to1 hR hd
  |nil=>exact .jl false none 0
  |row=>simp[HD]at hd
  |ptr=>simp[HD]at hd
  |mp=>simp[HD]at hd
  |z7=>simp[HD]at hd
 have mj:∀(j:Nat)(c:AV)(v:Value),((xs'.map ρ).map yg)[j]?=some c->(xs.toList.map a.eval)[j]?=some v->CA m.w.heap.size (safe B S m true) ⟨λ_ _=>none,Own.emp,m.w⟩ c v:=by
  intro j c v hc qi;rw[ja,ja]at hc;rw[ja]at qi;cases mr:xs.toList[j]? with
  |none=>simp[mr]at qi
  |some x=>
   cases qj:xs'[j]? with
   |none=>simp[qj]at hc
   |some y=>
    simp[mr]at qi;simp[qj]at hc;subst qi hc;have y7:=hx j x y mr qj;have hd:dq (ρ y)=true:=Nc.1 hq _ (List.mem_map_of_mem (zM qj));generalize ρ y=cy at y7 hd⊢;generalize a.eval x=vx at y7⊢;cases y7 with
    |any=>simp[dq,HD]at hd
    |j5=>simp[dq,HD]at hd
    |ca su=>
     cases su with
     |one Eg=>
      have qf:HD cy=true/\yg cy=ZH cy:=by
       cases Eg with
       |rd hr=>cases hr<;>exact⟨hd,rfl⟩
       |_=>exact⟨hd,rfl⟩
      rw[qf.2];exact .one (.rd (hcell _ _ Eg qf.1))
     |agg cs vs u6=>
      refine .agg (cs.map ZH) vs ⟨by simpa using u6.1,λk c' v' ae iy=>?_⟩;rw[ja]at ae;cases jx:cs[k]? with
      |none=>simp[jx]at ae
      |some c0=>
       simp[jx]at ae;subst ae;exact .rd (hcell c0 v' (u6.2 k c0 v' jx iy) (Nc.1 hd _ (zM jx)))
     |fn=>simp[dq,HD]at hd
     |um=>simp[dq,HD]at hd
 have dz:=hC.c.pure f _ r hr (safe B S m true) m.w (xs.toList.map a.eval) (hC.ok hm) (by simp[hl]) mj;intro K Q hK;unfold Oper.wp;rw[Y5 o9 (hC.c.qy f _ r hr _ _),bq];refine Calls.mono dz λe w' ⟨u,jb,fx,y7,u6⟩=>?_
 subst jb;obtain⟨lj,fy⟩:=grow hm (fx.Jn hC.hD);refine hK u ⟨m.ν,m.own,w'⟩ rfl lj fy ?_;have fp:∀b,b<w'.heap.size->safe m.w.heap.size (safe B S m true) ⟨λ_ _=>none,Own.emp,w'⟩ false b->safe B S ⟨m.ν,m.own,w'⟩ true b:=λb hb wy=>by
  rcases wy with⟨h1,h2⟩|⟨h1,_⟩|⟨h1,_⟩
  ·exact fy.Bl true b h2 h1
  ·refine .inr (.inl ⟨db hm.size h1,λs t js hg=>?_⟩)
   obtain⟨b',j9⟩:=Ma.1 js;obtain⟨_,x0,hh⟩:=hm.ge ⟨b',j9⟩ hg;have:=(xa.1 hh).1
   omega
  ·cases h1
 by_cases jc:KS r
 ·rw[pA jc]
  rcases lQ y7 u6 with xy|⟨cs,vs,rfl,_⟩
  ·rcases xy with ko|⟨cs,vs,rfl,rfl,jd,hh⟩
   ·have e1:Aa r=bE r/\ZR r:=by cases ko<;>exact⟨rfl,jc⟩
    rw[show B9.valOf (.val (Aa r)) m.own=Aa r from rfl,e1.1];exact .ca (.one (.rd (ko.Af fp u6 e1.2)))
   ·unfold AY at u6
    refine .ca (.agg (cs.map bE) vs ⟨by simpa using jd,λk c' v' ae iy=>?_⟩);rw[ja]at ae;cases jx:cs[k]? with
    |none=>simp[jx]at ae
    |some c0=>
     simp[jx]at ae;subst ae;exact .rd ((hh k c0 v' jx iy).Af fp (MN u6 k c0 jx) (jc c0 (zM jx)))
  ·exact jc.elim
 ·rw[oZ jc]
  have hd:=Oj.resolve_left jc;have mb:∀{r:AV}{v:Value},DA w' (safe m.w.heap.size (safe B S m true) ⟨λ_ _=>none,Own.emp,w'⟩) r v->AY r->CA B S ⟨m.ν,m.own,w'⟩ (KE r) v:=λ{r v} xy u6=>by
   rcases xy with ko|⟨cs,vs,rfl,rfl,jd,hh⟩
   ·have e1:KE r=H1 r:=by cases ko<;>rfl
    rw[e1];exact .one (.rd (ko.Ag fp u6))
   ·unfold AY at u6
    rw[show KE (.agg cs) = .agg (JJ cs)from rfl,oX];refine .agg (cs.map H1) vs ⟨by simpa using jd,λk c' v' ae iy=>?_⟩;rw[ja]at ae;cases jx:cs[k]? with
    |none=>simp[jx]at ae
    |some c0=>
     simp[jx]at ae;subst ae;exact .rd ((hh k c0 v' jx iy).Ag fp (MN u6 k c0 jx))
  rcases lQ y7 u6 with xy|⟨cs,vs,rfl,rfl,jd,hh⟩
  ·have e1:L5 r=KE r:=by
    rcases xy with ko|⟨cs,vs,rfl,_⟩
    ·cases ko<;>rfl
    ·rfl
   rw[show B9.valOf (.val (L5 r)) m.own=L5 r from rfl,e1];exact .ca (mb xy u6)
  ·unfold AY at u6
   rw[show B9.valOf (.val (L5 (.j5 cs))) m.own = .j5 (cs.map KE)from rfl];refine .j5 (cs.map KE) vs (by simpa using jd) λk c' v' ae iy=>?_
   rw[ja]at ae;cases jx:cs[k]? with
   |none=>simp[jx]at ae
   |some c0=>
    simp[jx]at ae;subst ae;exact mb (hh k c0 v' jx iy) (MN u6 k c0 jx)
end
end Go.e9

namespace Go.e9
open Go.RowKit
theorem cJ{s t:ByteArray}:MD s t=true↔s=t:=by
 unfold MD;rw[beq_iff_eq];constructor
 ·intro h
  cases s with
  |mk a=>cases t with
   |mk b=>exact congrArg _ (Array.ext' h)
 ·rintro rfl;rfl
theorem AnK{s t:ByteArray}:MD s t=false↔s≠t:=by
 rw[Ne,<-cJ];simp
def JX(v:Value):Option (DataW Unit×List MemPlace):=match v with
 |.int .i64 n=>if(Lit.int .i64 n).wf=true then some (.lit (.int .i64 n),[])else none
 |_=>none
section
variable {P:Program} {k:TypeId} {es:Array MapEntry} {clock:Nat} {l:v_}
theorem LX.Bw(h:LX es clock l){x:MapEntry}(hx:x∈es.toList):∃(s:ByteArray) (n:Int),x.key = .string s/\x.val = .int .i64 n/\s.size<=maxLen/\(Lit.int .i64 n).wf=true/\[AV.y8 (.string s),.int .i64 n]∈l:=by
 obtain⟨_,_,h3,h4⟩:=h;have hm:(x.key,x.val)∈l.map NX:=h3.mem_iff.1 (Lb.2 ⟨x,hx,rfl⟩);obtain⟨c,hc,e⟩:=Lb.1 hm;obtain⟨s,n,rfl,hs,hn⟩:=h4 c hc;simp only[NX,Ee]at e;exact⟨s,n,e.1.symm,e.2.symm,hs,hn,hc⟩
theorem LX.mem(h:LX es clock l){s:ByteArray}{n:Int}(hc:[AV.y8 (.string s),.int .i64 n]∈l):∃x∈es.toList,x.key = .string s/\x.val = .int .i64 n:=by
 obtain⟨_,_,h3,_⟩:=h;have hm:((Value.string s,Value.int .i64 n):Value×Value)∈l.map NX:=Lb.2 ⟨_,hc,rfl⟩;obtain⟨x,hx,e⟩:=Lb.1 (h3.mem_iff.2 hm);simp only[Ee]at e;exact⟨x,hx,e.1,e.2⟩
theorem LX.fit(hk:P.underlying k=some .string)(h:LX es clock l)(hl:l.length<=maxLen):WideElems.Fit P k JX es clock:=by
 refine⟨db h.2.1 hl,h.1,λx hx=>?_⟩;obtain⟨s,n,e1,e2,hs,hn,_⟩:=h.Bw hx;refine⟨(.string s.data.toList,.lit (.int .i64 n)),?_⟩;simp[WideElems.rd,e1,e2,WideMaps.keyOf_string_mk hk hs,JX,hn]
theorem LX.nodup(h:LX es clock l):((l.map NX).map Ge).Nodup:=by
 obtain⟨h1,_,h3,_⟩:=h;have:=(h3.map Ge).nodup_iff.1 (by
  rw[Kd];exact h1.2.2)
 exact this
theorem Ur:∀{l:v_}{b:ByteArray},(∀n:Int,[AV.y8 (.string b),.int .i64 n] ∉ l)->HF l b=none
 |[],_,_=>rfl
 |c::r,b,h=>by
  have ih:=Ur (l:=r) (b:=b) λn hn=>h n (Dd _ hn)
  unfold HF;split
  ·rename_i s n
   cases e:MD s b
   ·exact ih
   ·obtain rfl:=cJ.1 e
    exact absurd ye (h n)
  ·exact ih
theorem Us:∀{l:v_}{b:ByteArray}{n:Int},((l.map NX).map Ge).Nodup->[AV.y8 (.string b),.int .i64 n]∈l->HF l b=some n
 |c::r,b,n,hnd,h=>by
  rw[Da,Da,List.nodup_cons]at hnd;rcases Jc.1 h with rfl|hr
  ·unfold HF
   simp[cJ.2 rfl]
  ·have ih:=Us (l:=r) hnd.2 hr
   clear h;unfold HF;split
   ·rename_i s n'
    cases e:MD s b
    ·exact ih
    ·obtain rfl:=cJ.1 e
     refine absurd ?_ hnd.1;exact Lb.2 ⟨_,Lb.2 ⟨_,hr,rfl⟩,rfl⟩
   ·exact ih
end
section
variable {B:Nat} {S:Nat->Prop} {w0:GG} {m:M}
theorem Al2(hm:BJ B S w0 m)(s:Nat)(x6:EP<=s) :
  BJ B S w0 ⟨k6 m s (some m.w.heap.size),m.own.put s ((m.own s).new ⟨2,[]⟩),m.w.alloc (.map #[] 0)⟩ /\
  DB B S m ⟨k6 m s (some m.w.heap.size),m.own.put s ((m.own s).new ⟨2,[]⟩),m.w.alloc (.map #[] 0)⟩:=by
 have x8:(m.w.alloc (.map #[] 0)).heap.size=m.w.heap.size+1:=Z'
 have hν:∀s' t',live m s' t'->k6 m s (some m.w.heap.size) s' t'=m.ν s' t':=λs' t' hl=>by
  unfold k6;rw[if_neg];rintro⟨rfl,rfl⟩
  exact bK hm _ hl
 have he:DB B S m ⟨k6 m s (some m.w.heap.size),m.own.put s ((m.own s).new ⟨2,[]⟩),m.w.alloc (.map #[] 0)⟩:=by
  refine OS hm (by rw[x8];omega) (λk hk _=>Below.heap_alloc _ _ _ hk) (λs'=>?_) (λs' t' b' ht j9=>?_) (λs' t' g hl hg k7=>?_)
  ·rw[KY];split
   ·rename_i h;subst h;omega
   ·exact ga _
  ·rw[GA]at j9
   rw[if_neg (by rintro⟨rfl,rfl⟩;omega)]at j9;refine⟨b',j9,rfl,hν s' t' ⟨b',j9⟩,λg ar e' hg ha=>⟨ar,?_,rfl⟩⟩;exact(Below.heap_alloc _ _ _ (xa.1 ha).1).trans ha
  ·obtain⟨b',j9⟩:=hl
   have w7:=j9;rw[GA]at j9;by_cases h:s'=s/\t'=m.own.j7 s
   ·simp only[k6,if_pos h,za]at hg
    omega
   ·rw[if_neg h]at j9
    exact⟨s',t',⟨b',j9⟩,by rw[<-hν s' t' ⟨b',j9⟩];exact hg⟩
 refine⟨⟨hm.below.alloc hm.size _,by rw[x8];have:=hm.size;omega,λs' t' ht=>?_,λs' t' b' j9=>?_,λs1 t1 s2 t2 b1 b2 g h1 h2 g1 g2=>?_⟩,he⟩
 ·rw[KY]at ht
  rw[GA,if_neg]
  ·refine hm.fresh s' t' ?_
   split at ht
   ·rename_i h;subst h;omega
   ·exact ht
  ·rintro⟨rfl,rfl⟩
   simp at ht;omega
 ·rw[GA]at j9
  by_cases h:s'=s/\t'=m.own.j7 s
  ·rw[if_pos h]at j9
   obtain rfl:(⟨2,[]⟩:DI)=b':=by simpa using j9
   refine⟨λiw=>by have:=h.1;omega,λ_=>⟨m.w.heap.size,#[],0,by simp[k6,h],hm.size,heap_alloc_new _ _,MapKept.stamped_empty 0,ga _,List.Perm.refl _,λc hc=>by cases hc⟩⟩
  ·rw[if_neg h]at j9
   exact(hm.c9 s' t' b' j9).ext he (hν s' t' ⟨b',j9⟩) λg x _ hx=>(Below.heap_alloc _ _ _ (xa.1 hx).1).trans hx
 ·rw[GA]at h1 h2
  have lt:∀s' t' b',m.own.get s' t'=some b'->k6 m s (some m.w.heap.size) s' t'=some g->g<m.w.heap.size:=λs' t' b' hb hg=>by
   rw[hν s' t' ⟨b',hb⟩]at hg;obtain⟨_,x,h4⟩:=hm.ge ⟨b',hb⟩ hg;exact(xa.1 h4).1
  have at_:∀s' t',s'=s/\t'=m.own.j7 s->k6 m s (some m.w.heap.size) s' t'=some g->g=m.w.heap.size:=λs' t' h hg=>by
   simp only[k6,if_pos h,za]at hg;exact hg.symm
  by_cases p1:s1=s/\t1=m.own.j7 s<;>by_cases p2:s2=s/\t2=m.own.j7 s
  ·exact⟨p1.1.trans p2.1.symm,p1.2.trans p2.2.symm⟩
  ·rw[if_neg p2]at h2
   have:=lt s2 t2 b2 h2 g2
   have:=at_ s1 t1 p1 g1
   omega
  ·rw[if_neg p1]at h1
   have:=lt s1 t1 b1 h1 g1
   have:=at_ s2 t2 p2 g2
   omega
  ·rw[if_neg p1]at h1
   rw[if_neg p2]at h2;exact hm.inj s1 t1 s2 t2 b1 b2 g h1 h2 (by rw[<-hν s1 t1 ⟨b1,h1⟩];exact g1) (by rw[<-hν s2 t2 ⟨b2,h2⟩];exact g2)
theorem An7(hm:BJ B S w0 m)(s t:Nat)(x6:EP<=s)(b b':DI)(hb:m.own.get s t=some b)(g:Nat)(hg:m.ν s t=some g)(es es':Array MapEntry)(clock az:Nat)
  (ha:m.w.heap[g]?=some (.map es clock)) (Qr:b'.a7=b.a7) (bq:LX es' az b'.es) (w':World) (fx:D7 w0.D B w0.w w') (pj:w'.heap.size=m.w.heap.size)
  (hk:∀k,k≠g->w'.heap[k]?=m.w.heap[k]?) (Ko:w'.heap[g]?=some (.map es' az)) :
  BJ B S w0 ⟨m.ν,m.own.put s ((m.own s).u5 t (some b')),w'⟩/\DB B S m ⟨m.ν,m.own.put s ((m.own s).u5 t (some b')),w'⟩:=by
 have he:DB B S m ⟨m.ν,m.own.put s ((m.own s).u5 t (some b')),w'⟩:=by
  refine OS hm (by rw[pj];exact ga _) (λk jr hn=>hk k (λe=>hn s t ⟨b,hb⟩ (e▸hg))) (λs'=>by rw[X2];exact ga _) (λs' t' b2 ht w7=>?_) (λs' t' g' hl di _=>?_)
  ·rw[L4]at w7
   by_cases h:s'=s/\t'=t
   ·obtain⟨rfl,rfl⟩:=h
    rw[if_pos ⟨rfl,rfl⟩]at w7;obtain rfl:b'=b2:=by simpa using w7
    refine⟨b,hb,Qr,rfl,λg2 ar e' jo sj=>?_⟩;obtain rfl:g=g2:=by rw[hg]at jo;simpa using jo
    rw[ha]at sj;cases sj
   ·rw[if_neg h]at w7
    refine⟨b2,w7,rfl,rfl,λg2 ar e' jo sj=>⟨ar,?_,rfl⟩⟩;rw[<-sj];exact hk g2 (λe2=>h (by
     subst e2;exact hm.inj s' t' s t b2 b g2 w7 hb jo hg))
  ·obtain⟨b2,w7⟩:=hl
   rw[L4]at w7;by_cases h:s'=s/\t'=t
   ·obtain⟨rfl,rfl⟩:=h
    exact⟨s',t',⟨b,hb⟩,di⟩
   ·rw[if_neg h]at w7
    exact⟨s',t',⟨b2,w7⟩,di⟩
 have k7:t<m.own.j7 s:=by
  rcases Jb t (m.own.j7 s)with h|h
  ·exact h
  ·rw[hm.fresh s t h]at hb;cases hb
 refine⟨⟨fx,by rw[pj];exact hm.size,λs' t' ht=>?_,λs' t' b2 w7=>?_,λs1 t1 s2 t2 b1 b2 g1 h1 h2 e1 e2=>?_⟩,he⟩
 ·rw[X2]at ht
  rw[L4,if_neg (by rintro⟨rfl,rfl⟩;omega)];exact hm.fresh s' t' ht
 ·rw[L4]at w7
  by_cases h:s'=s/\t'=t
  ·obtain⟨rfl,rfl⟩:=h
   rw[if_pos ⟨rfl,rfl⟩]at w7;obtain rfl:b'=b2:=by simpa using w7
   exact⟨λiw=>O',λ_=>⟨g,es',az,hg,(hm.ge ⟨b,hb⟩ hg).1,Ko,bq⟩⟩
  ·rw[if_neg h]at w7
   exact(hm.c9 s' t' b2 w7).ext he rfl λg2 x hv hx=>(hk g2 (λe2=>h (by
    subst e2;exact hm.inj s' t' s t b2 b g2 w7 hb hv hg))).trans hx
 ·have old:∀s' t' b2,(m.own.put s ((m.own s).u5 t (some b'))).get s' t'=some b2->∃b3,m.own.get s' t'=some b3:=λs' t' b2 h=>by
   rw[L4]at h;by_cases h':s'=s/\t'=t
   ·obtain⟨rfl,rfl⟩:=h';exact⟨b,hb⟩
   ·rw[if_neg h']at h;exact⟨b2,h⟩
  obtain⟨c1,k1⟩:=old s1 t1 b1 h1;obtain⟨c2,k2⟩:=old s2 t2 b2 h2;exact hm.inj s1 t1 s2 t2 c1 c2 g1 k1 k2 e1 e2
theorem wF{s t:Nat}{v:Value}(h:CV B S m (.mp s t) v):∃g,v = .map (some g)/\(∀b,m.own.get s t=some b->m.ν s t=some g)/\EP<=s/\t<m.own.j7 s:=by
 cases h with
 |ca h=>cases h with
  |one h=>cases h with
   |rd h=>cases h
   |mp _ _ g ht hb hs=>exact⟨g,rfl,hb,hs,ht⟩
theorem wG{b:ByteArray}{v:Value}(h:CV B S m (.y8 (.string b)) v):v = .string b:=by
 cases h with
 |ca h=>cases h with
  |one h=>cases h with
   |rd h=>cases h;rfl
end
section
variable {P:Program} {k:TypeId} {es es':Array MapEntry} {clock az:Nat} {l:v_}
def X3(p:Value×Value):Lit×DataW Unit:=match p with
 |(.string s,.int .i64 n)=>(.string s.data.toList,.lit (.int .i64 n))
 |_=>(.bool false,.nil)
def X8(p:Lit×DataW Unit):Value×Value:=match p with
 |(.string l,.lit (.int .i64 n))=>(.string ⟨l.toArray⟩,.int .i64 n)
 |_=>(.bool false,.bool false)
theorem rA(hk:P.underlying k=some .string){x:MapEntry}{s:ByteArray}{n:Int}(e1:x.key = .string s)(e2:x.val = .int .i64 n)(hs:s.size<=maxLen)(hn:(Lit.int .i64 n).wf=true):WideElems.rg P k JX x=(.string s.data.toList,.lit (.int .i64 n)) :=
 WideElems.rg_of (by simp[WideElems.rd,e1,e2,WideMaps.keyOf_string_mk hk hs,JX,hn])
theorem Al5{b s:ByteArray}{d:DataW Unit}:ChangeMaps.notKey (.string b.data.toList) ((.string s.data.toList,d):Lit×DataW Unit) = !MD s b:=by
 unfold ChangeMaps.notKey MD;simp[Lit.sameKey]
theorem LX.put(hk:P.underlying k=some .string)(h:LX es clock l)(hl:l.length<maxLen){b:ByteArray}{n:Int}(hb:b.size<=maxLen)(hn:(Lit.int .i64 n).wf=true)(F':WideElems.Fit P k JX es' az)
  (hs:(es'.toList.map (WideElems.rg P k JX)).foldr DataW.insert []=ChangeMaps.putKey (.string b.data.toList) (.lit (.int .i64 n)) ((es.toList.map (WideElems.rg P k JX)).foldr DataW.insert []))
  (ig:∀x'∈es'.toList,(x'∈es.toList/\x'.key ≠ .string b)\/(x'.key = .string b/\x'.val = .int .i64 n)):LX es' az (S4 l b n):=by
 have w1:∀x∈es.toList,WideElems.rg P k JX x=X3 (x.key,x.val):=λx hx=>by
  obtain⟨s,n',e1,e2,h1,h2,_⟩:=h.Bw hx;rw[rA hk e1 e2 h1 h2,e1,e2];rfl
 have w2:∀x∈es'.toList,X8 (WideElems.rg P k JX x)=(x.key,x.val):=λx hx=>by
  rcases ig x hx with⟨hx,_⟩|⟨e1,e2⟩
  ·obtain⟨s,n',e1,e2,h1,h2,_⟩:=h.Bw hx
   rw[rA hk e1 e2 h1 h2,e1,e2];rfl
  ·rw[rA hk e1 e2 hb hn,e1,e2];rfl
 have p1:(es'.toList.map (WideElems.rg P k JX)).Perm ((.string b.data.toList,.lit (.int .i64 n))::(es.toList.map (WideElems.rg P k JX)).filter (ChangeMaps.notKey (.string b.data.toList))):=by
  refine(WideShapes.sorted_perm _).symm.trans ?_;rw[hs];exact(WideShapes.insert_perm _ _).trans (((WideShapes.sorted_perm _).filter _).cons _)
 have p2:((es.toList.map (WideElems.rg P k JX)).filter (ChangeMaps.notKey (.string b.data.toList))).Perm (((l.map NX).map X3).filter (ChangeMaps.notKey (.string b.data.toList))):=by
  refine List.Perm.filter _ ?_;rw[Ob w1,show(es.toList.map λx=>X3 (x.key,x.val))=(es.toList.map λx=>(x.key,x.val)).map X3 by rw[Kd];rfl];exact h.2.2.1.map _
 have p3:∀l':v_,(∀c∈l',∃(s:ByteArray) (n:Int),c=[.y8 (.string s),.int .i64 n]/\s.size<=maxLen/\(Lit.int .i64 n).wf=true)->(((l'.map NX).map X3).filter (ChangeMaps.notKey (.string b.data.toList))).map X8=(l'.filter λc=>!Ad b c).map NX:=by
  intro l';induction l' with
  |nil=>intro _;rfl
  |cons c r ih=>
   intro hc;obtain⟨s,n',rfl,_,_⟩:=hc c ye;have ih:=ih λc h=>hc c (Dd _ h)
   have e:ChangeMaps.notKey (.string b.data.toList) (X3 (NX [.y8 (.string s),.int .i64 n'])) = !MD s b:=Al5;have e2:Ad b [.y8 (.string s),.int .i64 n']=MD s b:=rfl;simp only[Da,List.filter_cons,e,e2];cases MD s b
   ·simp only[Bool.not_false,if_true,Da,ih]
    rfl
   ·simp only[Bool.not_true,Ga,if_false]
    exact ih
 have p4:(es'.toList.map λx=>(x.key,x.val)).Perm ((S4 l b n).map NX):=by
  rw[<-Ob w2,show(es'.toList.map λx=>X8 (WideElems.rg P k JX x))=(es'.toList.map (WideElems.rg P k JX)).map X8 by rw[Kd];rfl];refine(p1.map X8).trans ?_;rw[Da];refine((p2.map X8).cons _).trans ?_;rw[p3 l h.2.2.2];exact List.Perm.refl _
 refine⟨F'.stamped,?_,p4,λc hc=>?_⟩
 ·have:=p4.length_eq
  rw[Nb,Nb]at this;rw[<-this];simp
 ·rcases Jc.1 hc with rfl|hc
  ·exact⟨b,n,rfl,hb,hn⟩
  ·exact h.2.2.2 c (List.mem_filter.1 hc).1
end
section
variable {B:Nat} {S:Nat->Prop} {w0:GG} {m:M} {P:Program} {num:Nat->Nat} {o:Oper} {a:Act} {ρ:AL->AV}
theorem Un{t:TypeId}(h:bF P t=true):∃k e,P.underlying t=some (.map k e)/\P.underlying k=some .string/\P.underlying e=some (.int .i64)/\∀w,(zeroValue e).run P w = .ok (.int .i64 0) w:=by
 unfold bF at h;split at h
 ·rename_i k e ht
  simp only[ya]at h;obtain⟨⟨h1,h2⟩,h3⟩:=h;refine⟨k,e,ht,?_,?_,λw=>?_⟩
  ·split at h1
   ·assumption
   ·cases h1
  ·split at h2
   ·assumption
   ·cases h2
  ·split at h3
   ·rename_i i hi
    split at h3
    ·rename_i n hz
     obtain rfl:n=0:=by simpa using h3
     simp[zeroValue,typeInfo,hi,hz]
    ·cases h3
   ·cases h3
 ·cases h
theorem AhT(hm:BJ B S w0 m){s:Nat}(h:A9 P num o.op (.qo s)=true):CQ B S w0 P o a m (.cn (.mp s (m.own.j7 s)) (m.own.put s ((m.own s).new ⟨2,[]⟩))):=by
 simp only[A9,ya]at h;obtain⟨h1,h2⟩:=h;have x6:EP<=s:=by simpa [Nat.ble_eq]using h1
 split at h2
 ·rename_i t o9
  obtain⟨k1,k2⟩:=Al2 hm s x6;intro K Q hK;refine OG (u := .map (some m.w.heap.size)) (w':=m.w.alloc (.map #[] 0)) ?_ (hK _ ⟨k6 m s (some m.w.heap.size),m.own.put s ((m.own s).new ⟨2,[]⟩),m.w.alloc (.map #[] 0)⟩ rfl k1 k2 (.ca (.one (.mp s (m.own.j7 s) _ ?_ (λb hb=>?_) x6))))
  ·simp[execOp,o9,run_makeMap]
  ·show _<Own.j7 _ s
   rw[KY];simp
  ·simp[k6]
 ·cases h2
theorem AhU(hm:BJ B S w0 m)(hs:CM B S m ρ a.eval){x' k':AL}(h:A9 P num o.op (.ru x' k')=true){s t:Nat}(hx:ρ x' = .mp s t){b:ByteArray}(jy:ρ k' = .y8 (.string b)){c9:DI}(o5:m.own.get s t=some c9)(hb:b.size<=maxLen)(hl:c9.es.length<=maxLen) :
  CQ B S w0 P o a m (.val (.j5 [.int .i64 ((HF c9.es b).getD 0),.bool (HF c9.es b).isSome])):=by
 simp only[A9]at h;split at h
 ·rename_i ty x k o9
  simp only[ya]at h;obtain⟨⟨h1,h2⟩,h3⟩:=h;obtain⟨kt,et,hT,hK,hE,hZ⟩:=Un h1;obtain⟨g,hv,zd,x6,_⟩:=wF (hx▸hs x x' h2);have Ov:=wG (jy▸hs k k' h3);obtain⟨g',es,clock,e1,_,hh,bq⟩:=(hm.c9 s t c9 o5).2 x6;obtain rfl:g'=g:=na (e1.symm.trans (zd c9 o5));have w9:∃n ok,(Instr.lookup ty (.map (some g')) (.string b) true).run P m.w = .ok (.tuple #[.int .i64 n,.bool ok]) m.w/\n=(HF c9.es b).getD 0/\ok=(HF c9.es b).isSome:=by
   rcases Maps.fit_look true (Maps.string_keyed hK) hT (hZ m.w) hh (bq.fit hK hl) (WideMaps.keyOf_string_mk hK hb)with⟨hr,q6,_⟩|⟨e0,y,He,Ks,hr,_,_,_⟩
   ·have jj:HF c9.es b=none:=Ur λn hn=>by
     obtain⟨x,hx,hxk,_⟩:=bq.mem hn;exact q6 x hx hxk
    refine⟨0,false,by simpa using hr,by rw[jj];rfl,by rw[jj];rfl⟩
   ·obtain⟨s0,n0,q1,q2,_,_,q3⟩:=bq.Bw He
    obtain rfl:s0=b:=by
     rw[q1]at Ks;exact Value.string.inj Ks
    have hso:=Us bq.nodup q3;rw[q2]at hr;refine⟨n0,true,by simpa using hr,by rw[hso];rfl,by rw[hso];rfl⟩
  obtain⟨n,ok,hr,rfl,rfl⟩:=w9;refine E5 hm (u := .tuple #[.int .i64 ((HF c9.es b).getD 0),.bool (HF c9.es b).isSome]) ?_ ?_
  ·simp only[execOp,o9,hv,Ov,Sem.run_bind,hr]
   rfl
  ·refine .j5 _ [.int .i64 ((HF c9.es b).getD 0),.bool (HF c9.es b).isSome] rfl λj c v hc hv=>?_
   match j with
   |0=>
    obtain rfl:=na hc;obtain rfl:=na hv;exact .one (.rd (.int _ _))
   |1=>
    obtain rfl:=na hc;obtain rfl:=na hv;exact .one (.rd (.bool _))
   |j+2=>simp at hc
 ·cases h
theorem AhY(hm:BJ B S w0 m)(hs:CM B S m ρ a.eval){x' k' v':AL}(h:A9 P num o.op (.qp x' k' v')=true){s t:Nat}(hx:ρ x' = .mp s t){b:ByteArray}(jy:ρ k' = .y8 (.string b)){n:Int}(qi:ρ v' = .int .i64 n){c9:DI}(o5:m.own.get s t=some c9)(hb:b.size<=maxLen)(hl:c9.es.length<maxLen)(hn:(Lit.int .i64 n).wf=true) :
  CQ B S w0 P o a m (.cn .any (m.own.put s ((m.own s).u5 t (some ⟨c9.a7,S4 c9.es b n⟩)))):=by
 simp only[A9]at h;split at h
 ·rename_i ty x k v o9
  simp only[ya]at h;obtain⟨⟨⟨h1,h2⟩,h3⟩,h4⟩:=h;obtain⟨kt,et,hT,hK,hE,hZ⟩:=Un h1;obtain⟨g,hv,zd,x6,_⟩:=wF (hx▸hs x x' h2);have Ov:=wG (jy▸hs k k' h3);have hnv:=JE (qi▸hs v v' h4);obtain⟨g',es,clock,e1,hB,hh,bq⟩:=(hm.c9 s t c9 o5).2 x6;obtain rfl:g'=g:=na (e1.symm.trans (zd c9 o5));have hF:=bq.fit hK (Nat.le_of_lt hl);obtain⟨es',az,hr,F',Df,_,_,ig⟩:=Maps.fit_store (R':=JX) (Maps.string_keyed hK) hT hh hF (Nat.lt_of_le_of_lt bq.2.1 hl) (λ_ _ _ _ hz=>hz) (WideMaps.keyOf_string_mk hK hb) (val := .int .i64 n) (yv:=(.lit (.int .i64 n),[])) (by simp[JX,hn]);have hM:=bq.put hK hl hb hn F' Df ig;have x8:(ChangeMaps.setBlock m.w g' (.map es' az)).heap.size=m.w.heap.size:=by simp[ChangeMaps.setBlock]
  have ho:∀k,k≠g'->(ChangeMaps.setBlock m.w g' (.map es' az)).heap[k]?=m.w.heap[k]? := λk hk=>ChangeMaps.heap_setBlock_other hh _ hk
  obtain⟨k1,k2⟩:=An7 hm s t x6 c9 ⟨c9.a7,S4 c9.es b n⟩ o5 g' e1 es es' clock az hh rfl hM (ChangeMaps.setBlock m.w g' (.map es' az)) (hm.below.trans ⟨⟨rfl,rfl,rfl,by rw[x8];exact ga _,λk hk=>ho k O'⟩,λ_=>ga _⟩) x8 ho (ChangeMaps.heap_setBlock_same hh _);intro K Q hQ;refine Zc (w':=ChangeMaps.setBlock m.w g' (.map es' az)) ?_ (hQ _ ⟨m.ν,_,ChangeMaps.setBlock m.w g' (.map es' az)⟩ rfl k1 k2 (.any _));simp only[execOp,o9,hv,Ov,hnv,Sem.run_bind,hr];rfl
 ·cases h
end
end Go.e9

namespace Go.e9
open Go.RowKit Go.Sort
section
variable {B:Nat} {S:Nat->Prop} {w0:GG} {m:M}
variable {P:Program} {num:Nat->Nat} {o:Oper} {a:Act} {ρ:AL->AV}
theorem Alf{m:M}(hm:BJ B S w0 m)(s t:Nat):BJ B S w0 ⟨m.ν,m.own.put s ((m.own s).u5 t none),m.w⟩/\DB B S m ⟨m.ν,m.own.put s ((m.own s).u5 t none),m.w⟩:=by
 have old:∀s' t' b,(m.own.put s ((m.own s).u5 t none)).get s' t'=some b->m.own.get s' t'=some b:=λs' t' b h=>by
  rw[L4]at h;split at h
  ·cases h
  ·exact h
 have he:DB B S m ⟨m.ν,m.own.put s ((m.own s).u5 t none),m.w⟩:=by
  refine OS hm (ga _) (λ_ _ _=>rfl) (λs'=>by rw[X2];exact ga _) (λs' t' b' _ j9=>⟨b',old s' t' b' j9,rfl,rfl,λ_ ar _ _ ha=>⟨ar,ha,rfl⟩⟩) (λs' t' g hl hg _=>?_);obtain⟨b,hb⟩:=hl;exact⟨s',t',⟨b,old s' t' b hb⟩,hg⟩
 refine⟨⟨hm.below,hm.size,λs' t' ht=>?_,λs' t' b hb=>?_,λs1 t1 s2 t2 b1 b2 g h1 h2=>hm.inj s1 t1 s2 t2 b1 b2 g (old _ _ _ h1) (old _ _ _ h2)⟩,he⟩
 ·rw[X2]at ht
  rw[L4];split
  ·rfl
  ·exact hm.fresh s' t' ht
 ·exact(hm.c9 s' t' b (old s' t' b hb)).ext he rfl λg x _ hx=>hx
theorem Agz{m:M}{c:AV}{u:Value}(h:CC B S m c u)(hn:RF c=true){w:World}{R:Bool->Nat->Prop}:Rd w R c u:=by
 cases c<;>simp[RF]at hn
 ·cases h with
  |rd h=>cases h;exact .int _ _
 ·cases h with
  |rd h=>cases h;exact .bool _
theorem Alx(ow:Own)(s t:Nat)(b:DI):((ow.put s (((ow s).u5 t none).new b)).put s (((ow.put s (((ow s).u5 t none).new b)) s).u5 (ow.j7 s) none))=ow.put s (((ow s).u5 t none).lost):=by
 rw[Own.n9,Own.kb];congr 1;unfold B5.new B5.lost B5.u5 Own.j7;congr 1;funext t'
 by_cases h:t'=(ow s).j7<;>simp[h]
theorem Ahs(hm:BJ B S w0 m)(hs:CM B S m ρ a.eval){a7 bytes:Nat}{x' y':AL}(h:A9 P num o.op (.oa a7 bytes x' y')=true){ys:v_}(hy:FB m.own (ρ y')=some ys)(hz:∀e∈ys,e.length=a7/\∀c∈e,RF c=true){s t:Nat}{b:DI}(hx:ρ x' = .row s t a7 0 0)(o5:m.own.get s t=some b)
  (nr:b.a7=a7) (kp:ys.length*bytes<=E7) (Fu:ys.length<=9223372036854775807) :
  CQ B S w0 P o a m (.cn (.sl false ys) (m.own.put s (((m.own s).u5 t none).lost))):=by
 have h':A9 P num o.op (.app 0 a7 bytes x' y')=true:=h;have hd:=mE hm hs h' hy (λe he=>(hz e he).1) hx o5 nr (Ce _) (by simpa using kp) (by simpa using Fu);intro K Q hK;refine hd K Q λu m' l8 lj fy y7=>?_
 change m'.own=m.own.put s (((m.own s).u5 t none).new ⟨a7,b.es.take 0++ys⟩)at l8;change CV B S m' (.row s (m.own.j7 s) a7 0 (0+ys.length)) u at y7;obtain⟨k1,k2⟩:=Alf lj s (m.own.j7 s);have di:m'.own.get s (m.own.j7 s)=some ⟨a7,ys⟩:=by
  rw[l8,SN,if_pos ⟨rfl,rfl⟩];simp
 refine hK u ⟨m'.ν,m'.own.put s ((m'.own s).u5 (m.own.j7 s) none),m'.w⟩ ?_ k1 (fy.trans k2) ?_
 ·show m'.own.put s ((m'.own s).u5 (m.own.j7 s) none)=_
  rw[l8];exact Alx _ _ _ _
 ·obtain⟨ad,cap,hu,ht,cz,jz,ha,hb⟩:=QX y7
  obtain⟨_,eo⟩:=hb _ di;obtain⟨gu,cq⟩:=lj.my di (VW y7);subst hu;rw[Ca]at jz eo⊢;show CV B S _ (.sl false ys) _;refine .ca (.one (.rd ?_));by_cases qk:ys=[]
  ·subst qk
   exact .jl _ _ _
  ·rcases eo with⟨nc,_⟩|⟨g,arr,e,hg,ki,hh,hle⟩
   ·exact absurd (ma nc) qk
   ·rw[hg]at cq
    obtain⟨hB,mw,e2,sz,ck⟩:=cq;rw[hh]at sz;obtain⟨rfl,rfl⟩:arr=mw/\e=e2:=by simpa using sz
    rw[ki];refine Rd.sl false ys g (0*a7) a7 cap (λi j=>(arr[i*a7+j]?).getD undef) qk cz (.inr (.inl ⟨hB,λs' t' hl zd=>?_⟩)) jz (λe he=>(hz e he).1) (λi e hi j c hj=>?_) (λi e hi j c hj=>?_)
    ·obtain⟨b',j9⟩:=Ma.1 hl
     change Own.get (m'.own.put s ((m'.own s).u5 (m.own.j7 s) none)) s' t'=some b' at j9;rw[L4]at j9;split at j9
     ·cases j9
     ·rename_i q6
      exact q6 (lj.inj _ _ _ _ _ _ _ j9 di zd hg)
    ·obtain⟨u,hu,_⟩:=ck i e hi j c hj
     rw[Jd,Ca,VO hh];have hu:arr[i*a7+j]?=some u:=hu;rw[hu];rfl
    ·obtain⟨u,hu,fq⟩:=ck i e hi j c hj
     have hu:arr[i*a7+j]?=some u:=hu;rw[hu];exact Agz fq ((hz e (zM hi)).2 c (zM hj))
theorem Agy{m:M}{c:AV}{u:Value}(h:CC B S m c u)(hn:YN c=true):Rd m.w (safe B S m) c u:=by
 cases h<;>first|assumption|simp[YN]at hn
theorem AhQ(hm:BJ B S w0 m)(hs:CM B S m ρ a.eval){a7:Nat}{dc:List AL}(h:A9 P num o.op (.lit a7 dc)=true){es:v_}(fu:dc.mapM (λx=>cellsOf (ρ x))=some es)(hz:∀e∈es,e.length=a7/\∀c∈e,YN c=true) :
  CQ B S w0 P o a m (.val (.sl false es)):=by
 have h':A9 P num o.op (.b8 0 a7 dc)=true:=h;obtain⟨vs,e,w9,x8,h0,hc⟩:=uZ hs h' fu λe he=>(hz e he).1
 intro K Q hK;obtain⟨h1,h2⟩:=grow hm ((D7.refl w0.D m.w.heap.size m.w).alloc (ga _) (.cells vs e));refine OG w9 (hK _ ⟨m.ν,m.own,m.w.alloc (.cells vs e)⟩ rfl h1 h2 (.ca (.one (.rd ?_))));by_cases qk:es=[]
 ·subst qk
  exact .jl _ _ _
 ·have hh:(m.w.alloc (.cells vs e)).heap[m.w.heap.size]?=some (.cells vs e (0,0)):=heap_alloc_new _ _
  refine Rd.sl false es m.w.heap.size 0 a7 es.length (λi j=>(vs[i*a7+j]?).getD undef) qk h0 (.inr (.inl ⟨hm.size,λs' t' hl zd=>?_⟩)) (ga _) (λe he=>(hz e he).1) (λi e hi j c hj=>?_) (λi e hi j c hj=>?_)
  ·obtain⟨b',j9⟩:=Ma.1 hl
   obtain⟨_,x,h4⟩:=hm.ge ⟨b',j9⟩ zd;have:=(xa.1 h4).1
   omega
  ·obtain⟨u,hu,_⟩:=hc i e hi j c hj
   rw[Ca,VO hh,hu];rfl
  ·obtain⟨u,hu,fq⟩:=hc i e hi j c hj
   rw[hu];exact Agy (h2.cc fq) ((hz e (zM hi)).2 c (zM hj))
end
section
variable {cmp:Nat->w_->Option AV} {f:Nat} {es es':v_}
theorem KW.nodup(h:KW cmp f es es'):es'.Nodup:=by
 unfold Be;rw[sc];intro i j hi hj jq e;obtain⟨r,h1,h2⟩:=h.ord i j _ _ (zE hi) (zE hj);obtain⟨q,h3,h4⟩:=h.ord i i _ _ (zE hi) (zE hi);rw[<-e,h3]at h1;obtain rfl:q=r:=by simpa using h1
 have:=h4.1 (h2.2 jq)
 omega
theorem Vg{α:Type}{l:List α}(h:l.Nodup){i j:Nat}(hi:i<l.length)(hj:j<l.length)(e:l[i]=l[j]):i=j:=by
 unfold Be at h;rw[sc]at h;rcases Qe i j with h1|h1|h1
 ·exact absurd e (h i j hi hj h1)
 ·exact h1
 ·exact absurd e.symm (h j i hj hi h1)
theorem Anx(h:KW cmp f es es'):∃cf:Fin es.length->Fin es.length->Int,(∀k l:Fin es.length,cmp f [.agg es[k],.agg es[l]]=some (.int .i64 (cf k l)))/\SWO (I0 cf)/\(∀x y,(I0 cf) x y=false->(I0 cf) y x=false->x=y) /\
  ((xb es.length).mergeSort λx y=>!(I0 cf) y x).map (λk=>es[k])=es':=by
 have zl:∀k:Fin es.length,∃p:Nat,es'[p]?=some es[k]:=λk=>Cd (h.perm.mem_iff.2 (eb k.2))
 let pos:Fin es.length->Nat:=λk=>(zl k).choose
 have hp:∀k,es'[pos k]?=some es[k]:=λk=>(zl k).choose_spec
 have hnd:es.Nodup:=h.perm.nodup_iff.1 h.nodup;have inj:∀k l,pos k=pos l->k=l:=λk l e=>by
  have h1:=hp k;rw[e,hp l]at h1;have h2:es[l]=es[k]:=by simpa using h1
  exact(Fin.ext (Vg hnd l.2 k.2 h2)).symm
 let cf:Fin es.length->Fin es.length->Int:=λk l=>(h.ord _ _ _ _ (hp k) (hp l)).choose
 have Kk:∀k l,cmp f [.agg es[k],.agg es[l]]=some (.int .i64 (cf k l))/\(cf k l<0↔pos k<pos l):=λk l=>(h.ord _ _ _ _ (hp k) (hp l)).choose_spec
 have k7:∀k l,I0 cf k l=decide (pos k<pos l):=λk l=>by
  unfold I0;exact decide_eq_decide.2 (Kk k l).2
 refine⟨cf,λk l=>(Kk k l).1,⟨λx=>by rw[k7];simp,λx y z=>by rw[k7,k7,k7];simp only[decide_eq_true_eq];omega,λx y z=>by rw[k7,k7,k7];simp only[decide_eq_false_iff_not];omega⟩,λx y=>by
  rw[k7,k7];simp only[decide_eq_false_iff_not];intro h1 h2;exact inj x y O',?_⟩
 have Pb:=List.pairwise_mergeSort (le:=λx y=>!(I0 cf) y x) (λx y z=>by simp only[k7,Kb,decide_eq_false_iff_not];omega) (λx y=>by simp only[k7,Mb,Kb,decide_eq_false_iff_not];omega) (xb es.length);have wu:=List.mergeSort_perm (xb es.length) (λx y=>!(I0 cf) y x);generalize ((xb es.length).mergeSort λx y=>!(I0 cf) y x)=ks at Pb wu;have Cu:ks.Nodup:=wu.nodup_iff.2 (List.nodup_finRange _);have aq:(xb es.length).map (λk=>es[k])=es:=by
  apply List.ext_getElem
  ·simp
  ·intro i h1 h2;simp
 refine KW.uniq (cmp:=cmp) (f:=f) (es:=es) ⟨?_,h.cln,λi j x y hx hy=>?_⟩ h
 ·exact(wu.map _).trans (by rw[aq])
 ·rw[ja]at hx hy
  cases tz:ks[i]? with
  |none=>simp[tz]at hx
  |some k=>
   cases Ou:ks[j]? with
   |none=>simp[Ou]at hy
   |some l=>
    simp only[tz,Ou,Ia,za]at hx hy;subst hx hy;refine⟨cf k l,(Kk k l).1,?_⟩;rw[(Kk k l).2];obtain⟨hi,rfl⟩:=zS tz;obtain⟨hj,rfl⟩:=zS Ou;rw[sc]at Pb;have le:∀i j (hi:i<ks.length) (hj:j<ks.length),i<j->pos ks[i]<pos ks[j]:=λi j hi hj jq=>by
     have h1:=Pb i j hi hj jq;simp only[k7,Kb,decide_eq_false_iff_not]at h1;have h2:pos ks[i]≠pos ks[j]:=λe=>by
      have:=Vg Cu hi hj (inj _ _ e)
      omega
     omega
    constructor
    ·intro pd
     rcases Qe i j with h1|h1|h1
     ·exact h1
     ·subst h1;omega
     ·have:=le j i hj hi h1;omega
    ·exact le i j hi hj
theorem Anz{n:Nat}(hn:es.length=n)(h:KW cmp f es es'):∃cf:Fin n->Fin n->Int,(∀(k l:Fin n) x y,es[k.1]?=some x->es[l.1]?=some y->cmp f [.agg x,.agg y]=some (.int .i64 (cf k l)))/\SWO (I0 cf)/\(∀x y,(I0 cf) x y=false->(I0 cf) y x=false->x=y) /\
  ((xb n).mergeSort λx y=>!(I0 cf) y x).map (λk=>(es[k.1]?).getD [])=es':=by
 subst hn;obtain⟨cf,h1,h2,h3,h4⟩:=Anx h;refine⟨cf,λk l x y hx hy=>?_,h2,h3,?_⟩
 ·rw[zE k.2]at hx
  rw[zE l.2]at hy;obtain rfl:=na hx;obtain rfl:=na hy;exact h1 k l
 ·rw[<-h4]
  apply Ob;intro k _;rw[zE k.2];rfl
end
section
variable {α:Type} [Inhabited α] {enc:α->List Value} {k:Nat} {w:World} {c9 m:Nat} {dk:Array α} {os:Array Obj}
theorem Wo:(MT enc k dk).size=dk.size*k:=by simp[MT]
theorem Ry{i j:Nat}(hi:i<dk.size)(hj:j<k):(MT enc k dk)[i*k+j]! = (enc dk[i]!)[j]! := by
 have k7:i*k+j<dk.size*k:=by
  have:=zR k (show i+1<=dk.size from hi)
  rw[zb]at this;omega
 obtain⟨e1,e2⟩:=wU k i j hj;simp[MT,k7,e1,e2]
theorem Anw{q:Nat}(hq:q<w.heap.size)(q6:q≠c9)(off:Nat):(NP enc k w c9 off m dk os).heap[q]?=w.heap[q]? := by
 unfold NP;rw[heap_grow_old _ _ (by simpa [putRow,mapBlock,Sort.ahead]using hq)];simp[putRow,mapBlock,Sort.ahead,Gb,Ne.symm q6]
theorem Agj{W w':World}(h:D7 True W.heap.size W w'):∃q os',w'=Sort.grow (W.drewN q) os':=by
 refine⟨w'.drawn-W.drawn,w'.heap.extract W.heap.size w'.heap.size,?_⟩;have h1:w'.heap=W.heap++w'.heap.extract W.heap.size w'.heap.size:=by
  apply Array.ext_getElem?;intro i;rw[Array.getElem?_append];split
  ·rename_i hi
   exact h.block i hi
  ·rename_i hi
   rw[Array.getElem?_extract];split
   ·congr 1;omega
   ·rw[Array.getElem?_eq_none]
    have:=h.size
    omega
 have h2:w'.drawn=W.drawn+(w'.drawn-W.drawn):=by have:=h.drawn trivial;omega
 have h3:=h.os;have h4:=h.tape;have h5:=h.output;cases w';cases W;simp only[Sort.grow,World.drewN]at*;subst h3 h4 h5;congr
end
section
variable {B:Nat} {S:Nat->Prop} {w0:GG} {m:M}
variable {P:Program} {num:Nat->Nat} {o:Oper} {a:Act} {ρ:AL->AV}
theorem Agx{c:AV}{v:Value}(h:CC B S m c v)(hc:AY c):Rd m.w (safe B S m) c v:=by
 cases h with
 |rd h=>exact h
 |_=>simp[AY]at hc
theorem Ado{C:Cl}{I:E0}(hC:HU I P num C B w0)(hs:CM B S m ρ a.eval){fs f a7:Nat}{x' c':AL}(h:A9 P num o.op (.fm fs f a7 x' c')=true)(hc:ρ c' = .fn true f (C.num f) []) :
  ∃ts X v,o.op = .call ⟨.value (.func (num fs)),X,ts⟩/\X.map a.eval = #[v,.func (.func (num f)) #[] #[]]/\CV B S m (ρ x') v:=by
 obtain⟨xs,ts,o9,he⟩:=gQ (P:=P) (num:=num) (f:=fs) (xs':=[x',c']) h;obtain⟨hl,hx⟩:=R9 hs he;obtain⟨xl⟩:=xs;match xl,hl,hx with
 |[X,Y],_,hx=>
  refine⟨ts,_,a.eval X,o9,?_,hx 0 X x' rfl rfl⟩;have h1:=hx 1 Y c' rfl rfl;rw[hc]at h1;have:a.eval Y = .func (.func (num f)) #[] #[]:=by
   rw[hC.c.num]at h1;generalize a.eval Y=fv at h1;cases h1 with
   |ca h1=>cases h1 with
    |one h1=>cases h1 with
     |rd h1=>cases h1
    |fn p f g cs vs hp h1=>
     have:vs=[]:=ma h1.1.symm
     subst this;rfl
    |um f g cs vs hp h1=>exact absurd rfl hp
  simp[this]
theorem xF{C:Cl}{I:E0}(hC:HU I P num C B w0)(hm:BJ B S w0 m)(hs:CM B S m ρ a.eval){fs f a7:Nat}{x' c':AL}(h:A9 P num o.op (.fm fs f a7 x' c')=true)(hc:ρ c' = .fn true f (C.num f) [])(hk:C.fo fs=some a7)
  (hx:∀v,CV B S m (ρ x') v->∃p cap,v = .slice p 0 cap):CQ B S w0 P o a m (.cn (.j5 []) m.own):=by
 obtain⟨ts,X,v,o9,hX,hv⟩:=Ado hC hs h hc;obtain⟨p,cap,rfl⟩:=hx v hv;obtain⟨s1,s2,_⟩:=hC.c.fm fs a7 hk;intro K Q hK;unfold Oper.wp;rw[Y5 o9 (s1 _ _),hX];refine Calls.mono (s2 p cap _ m.w) λe w' ⟨he,hw⟩=>?_
 subst he hw;exact hK _ m rfl hm (DB.refl m) (.j5 [] [] rfl (λj c v h=>by simp at h))
theorem Ah4{C:Cl}{I:E0}(hC:HU I P num C B w0)(hm:BJ B S w0 m)(hs:CM B S m ρ a.eval){fs f a7:Nat}{x' c':AL}(h:A9 P num o.op (.fm fs f a7 x' c')=true)(hc:ρ c' = .fn true f (C.num f) [])(hk:C.fo fs=some a7)
  {s t len:Nat} {b:DI} {es':v_} (hx:ρ x' = .row s t a7 0 len) (o5:m.own.get s t=some b) (hlen:len=b.es.length) (nr:b.a7=a7) (Nw:len<4611686018427387904) (zr:KW C.cmp f b.es es') :
  CQ B S w0 P o a m (.cn (.j5 []) (m.own.put s ((m.own s).u5 t (some ⟨a7,es'⟩)))):=by
 subst nr;cases hN:b.es.length with
 |zero=>
  have ACe:b.es=[]:=ma hN;have Hu:es'=[]:=ma (zr.perm.length_eq.trans hN);have:=xF hC hm hs h hc hk (λv hv=>by
   rw[hx]at hv;obtain⟨ad,cap,rfl,_⟩:=QX hv;exact⟨ad,cap,by rw[hlen,hN]⟩)
  rw[An8 _ _ _ _ (by rw[o5,Hu];cases b;simp_all)];exact this
 |succ N=>
  obtain⟨ts,X,v,o9,hX,hv⟩:=Ado hC hs h hc;rw[hx]at hv;obtain⟨ad,cap,rfl,ht,cz,jz,ha,hb⟩:=QX hv;have x6:=VW hv;obtain⟨_,eo⟩:=hb b o5;obtain⟨gu,cq⟩:=hm.my o5 x6;rcases eo with⟨nc,_⟩|⟨g,arr,e,hg,ki,hh,hle⟩
  ·omega
  rw[hg]at cq;obtain⟨hB,mw,e2,sz,ck⟩:=cq;rw[hh]at sz;obtain⟨rfl,rfl⟩:arr=mw/\e=e2:=by simpa using sz
  have zf:g<m.w.heap.size:=(xa.1 hh).1;obtain⟨cf,c1,c2,c3,c4⟩:=Anz hN zr;obtain⟨s1,_,s3⟩:=hC.c.fm fs b.a7 hk;let enc:Fin (N+1)->List Value:=λk=>(dd b.a7).map λj=>(arr[k.1*b.a7+j]?).getD undef
  have fc:∀x,(enc x).length=b.a7:=λx=>by simp[enc]
  have ou:∀k:Fin (N+1),∃x,b.es[k.1]?=some x:=λk=>⟨_,zE (by rw[hN];exact k.2)⟩
  have hcell:∀(k:Fin (N+1))(x:w_),b.es[k.1]?=some x->∀(j:Nat)(c:AV),x[j]?=some c->∃u,arr[k.1*b.a7+j]?=some u/\(enc k)[j]?=some u/\CC B S m c u:=λk x hx j c hj=>by
   obtain⟨u,h1,h2⟩:=ck k.1 x hx j c hj;have fe:j<b.a7:=by rw[<-gu x (zM hx)];exact(zS hj).1
   refine⟨u,h1,?_,h2⟩;simp[enc,Kc fe,h1]
  have Ix:∀(k:Fin (N+1))(j:Nat),j<b.a7->∃c u,((b.es[k.1]?).getD [])[j]?=some c/\arr[k.1*b.a7+j]?=some u/\(enc k)[j]?=some u/\CC B S m c u:=λk j hj=>by
   obtain⟨x,hx⟩:=ou k;have hjx:j<x.length:=by rw[gu x (zM hx)];exact hj
   obtain⟨u,h1,h2,h3⟩:=hcell k x hx j _ (zE hjx);exact⟨x[j],u,by rw[hx];exact zE hjx,h1,h2,h3⟩
  have h1c:∀x,∀v∈enc x,v.oneCell'=true:=λx v hv=>by
   obtain⟨j,hj⟩:=Cd hv;obtain⟨c,u,_,_,h3,h4⟩:=Ix x j (by rw[<-fc x];exact(zS hj).1);rw[hj]at h3;obtain rfl:=na h3;exact h4.one
  let d:Array (Fin (N+1)):=(xb (N+1)).toArray
  have hd:d.size=N+1:=by simp[d]
  have Cq:∀i,i<N+1->(d[i]!).1=i:=λi hi=>by
   rw[getElem!_pos d i (by rw[hd];exact hi)];simp[d]
  have cj:(N+1)*b.a7<=arr.size:=by
   have:(N+1)*b.a7<=(0+cap)*b.a7:=zR _ O'
   omega
  have hH:Holds id m.w g (0*b.a7) (MT enc b.a7 d):=λj hj=>by
   rw[Wo,hd]at hj;have hdm:=kd j b.a7;have hq:j/b.a7<N+1:=Mc (by rw[xc];exact hj);have hr:j%b.a7<b.a7:=re _ cz;have e1:j=j/b.a7*b.a7+j%b.a7:=by rw[xc];exact hdm.symm
   obtain⟨c,u,_,h2,h3,_⟩:=Ix ⟨j/b.a7,hq⟩ _ hr;refine⟨?_,by simp[World.frozen?,hh]⟩;rw[Jd,Ca,VO hh];conv=>rhs;rw[e1]
   rw[Ry (by rw[hd];exact hq) hr];have e2:d[j/b.a7]! = ⟨j/b.a7,hq⟩:=Fin.ext (Cq _ hq);rw[e2];have e3:(enc ⟨j/b.a7,hq⟩)[j%b.a7]! = u:=by
    rw[yd,h3];rfl
   show arr[j]?=some ((enc ⟨j/b.a7,hq⟩)[j%b.a7]!);rw[e3,<-h2];show arr[j]?=arr[j/b.a7*b.a7+j%b.a7]?;rw[<-e1]
  have q6:∀l q,safe B S m l q->q≠g:=λl q hq e=>by
   subst e;rcases hq with⟨_,h⟩|⟨_,h⟩|⟨_,h⟩
   ·omega
   ·exact h s t (by rw[o5];rfl) hg
   ·omega
  have dz:=s3 N enc fc h1c cf c2 (num f) g (0*b.a7) cap d m.w (λus w=>by
   obtain⟨x0,nz⟩:=ou ⟨0,O'⟩;exact(hC.c.cmp f _ _ (c1 _ _ _ _ nz nz)).1 us w) (λq os dk hdk x y=>by
   obtain⟨xv,Ds⟩:=ou x;obtain⟨yv,ug⟩:=ou y;have args:∀(k:Fin (N+1))(xv:w_),b.es[k.1]?=some xv->CA (NP enc b.a7 m.w g (0*b.a7) q dk os).heap.size (λi=>i<m.w.heap.size) ⟨λ_ _=>none,Own.emp,NP enc b.a7 m.w g (0*b.a7) q dk os⟩ (.agg xv) (.agg (enc k).toArray):=λk xv Ds=>by
    refine .agg xv (enc k) ⟨by rw[fc,gu xv (zM Ds)],λj c v hc hv=>.rd ?_⟩;obtain⟨u,h1,h2,h3⟩:=hcell k xv Ds j c hc;rw[hv]at h2;obtain rfl:=na h2;have x8:m.w.heap.size<=(NP enc b.a7 m.w g (0*b.a7) q dk os).heap.size:=by simp[NP,putRow,mapBlock,Sort.ahead]
    exact(Agx h3 (MN (Z8 zr.cln k.1 xv Ds) j c hc)).mono (λl i hi _=>.inl ⟨hi,O'⟩) (λl i hi wy=>Anw hi (q6 l i wy) _)
   refine Calls.mono ((hC.c.cmp f _ _ (c1 x y xv yv Ds ug)).2 (λi=>i<m.w.heap.size) _ [.agg (enc x).toArray,.agg (enc y).toArray] rfl (λj c v hc hv=>?_)) λe w' ⟨u,he,fx,y7⟩=>?_
   ·match j,hc,hv with
    |0,hc,hv=>
     obtain rfl:=na hc;obtain rfl:=na hv;exact args x xv Ds
    |1,hc,hv=>
     obtain rfl:=na hc;obtain rfl:=na hv;exact args y yv ug
    |j+2,hc,hv=>simp at hc
   ·subst he
    exact⟨by rw[JE y7],Agj fx⟩) hH zf O' c3
  intro K Q hK;unfold Oper.wp;rw[Y5 o9 (s1 _ _),hX,hlen,hN,<-hd,ki];refine Calls.mono dz λe' w' ⟨jb,q,os,hw⟩=>?_
  subst jb hw;have hdl:d.toList=xb (N+1):=by simp[d]
  rw[hdl];generalize zh:((xb (N+1)).mergeSort λx y=>!(I0 cf) y x)=ks at c4;have ua:ks.length=N+1:=by rw[<-zh,List.length_mergeSort];simp
  have Cj:(putRow id (Sort.ahead m.w q) g (0*b.a7) (MT enc b.a7 ks.toArray)).heap[g]?=some (.cells (putCells id (0*b.a7) (MT enc b.a7 ks.toArray) arr) e (0,0)):=by
   show(m.w.heap.modify g (onCells _))[g]?=_;rw[Gb,if_pos rfl,hh];rfl
  obtain⟨k1,k2⟩:=Zz hm s t x6 b ⟨b.a7,es'⟩ o5 g hg arr (putCells id (0*b.a7) (MT enc b.a7 ks.toArray) arr) e hh rfl (λx hx=>gu x (zr.perm.mem_iff.1 hx)) (by simp[putCells]) (λi cs hi j c hj=>by
    rw[<-c4,ja]at hi;cases tz:ks[i]? with
    |none=>simp[tz]at hi
    |some k=>
     simp only[tz,Ia,za]at hi;have ic:i<ks.length:=(zS tz).1;obtain⟨x,hx⟩:=ou k;rw[hx]at hi;obtain rfl:x=cs:=hi;have fe:j<b.a7:=by rw[<-gu x (zM hx)];exact(zS hj).1
     obtain⟨u,h1,h2,h3⟩:=hcell k x hx j c hj;refine⟨u,?_,h3⟩;have k7:i*b.a7+j<(N+1)*b.a7:=by
      have:=zR b.a7 (show i+1<=N+1 by omega)
      rw[zb]at this;omega
     show(putCells id (0*b.a7) (MT enc b.a7 ks.toArray) arr)[i*b.a7+j]?=some u;unfold putCells;rw[Array.getElem?_mapIdx,cd O',Ia,if_pos ⟨O',by rw[Wo];simp[ua];omega⟩,Jd,Nat.sub_zero,Ry (by simp[ua];omega) fe];have e2:ks.toArray[i]! = k:=by
      rw[getElem!_pos _ i (by simpa using ic)];simpa using(zS tz).2
     rw[e2,yd,h2];rfl) (putRow id (Sort.ahead m.w q) g (0*b.a7) (MT enc b.a7 ks.toArray)) (hm.below.trans ⟨⟨rfl,rfl,rfl,by simp[putRow,mapBlock,Sort.ahead],λi hi=>by
    simp only[putRow,mapBlock,Sort.ahead,Gb];rw[if_neg O']⟩,λ_=>by simp[putRow,mapBlock,Sort.ahead]⟩) (by simp[putRow,mapBlock,Sort.ahead]) (λi hi=>by
    simp only[putRow,mapBlock,Sort.ahead,Gb];rw[if_neg (Ne.symm hi)]) Cj
  obtain⟨k3,k4⟩:=grow k1 (w':=NP enc b.a7 m.w g (0*b.a7) q ks.toArray os) ⟨⟨rfl,rfl,rfl,by simp[NP],λi hi=>heap_grow_old _ _ hi⟩,λ_=>ga _⟩;exact hK _ ⟨m.ν,_,NP enc b.a7 m.w g (0*b.a7) q ks.toArray os⟩ rfl k3 (k2.trans k4) (.j5 [] [] rfl (λj c v h=>by simp at h))
end
end Go.e9

namespace Go.e9
open Go.RowKit
section
variable {B:Nat} {S:Nat->Prop} {w0:GG} {m:M}
variable {P:Program} {num:Nat->Nat} {o:Oper} {a:Act} {ρ:AL->AV} {C:Cl} {b9:u_}
theorem AhW(hm:BJ B S w0 m)(hs:CM B S m ρ a.eval){mx:Bool}{xs':List AL}(h:A9 P num o.op (.mm mx xs')=true){v r:AV}{l:w_}(hx:xs'.map ρ=v::l)(hv:M3 mx v l=some r):CQ B S w0 P o a m (.val r):=by
 by_cases hi:∃k n,v = .int k n
 ·exact AhV hm hs h hx hv hi
 ·cases l with
  |cons u q=>
   simp only[M3]at hv;exfalso;cases v<;>first|(exact hi ⟨_,_,rfl⟩)|(simp[RD]at hv)
  |nil=>
   simp only[M3,za]at hv;subst hv;obtain⟨xs,ts,o9,he⟩:=Vo h;cases xs' with
   |nil=>simp at hx
   |cons y yr=>
    simp only[Da,Ke,List.map_eq_nil_iff]at hx;obtain⟨rfl,rfl⟩:=hx;obtain⟨xl⟩:=xs;cases xl with
    |nil=>simp[EW]at he
    |cons x xr=>
     simp only[EW,ya]at he;cases xr with
     |cons=>simp[EW]at he
     |nil=>
      refine E5 hm (u:=a.eval x) ?_ (hs x y he.1);cases mx<;>simp[execOp,o9,resolve,invoke,builtin,Builtin.min_,Builtin.max_]
theorem nU(o:Own)(l:u_)(s t:Nat)(b:DI)(h:(o.u7 l).get s t=some b):o.get s t=some b:=by
 induction l with
 |nil=>exact h
 |cons x r ih=>
  unfold Own.get Own.u7 at h;by_cases hs:s=x
  ·simp[hs]at h
  ·simp only[if_neg hs]at h
   exact ih h
theorem Alm{o:Own}{l:u_}{s t i j n:Nat}{cs:w_}(h:(o.u7 l).rq s t i j n=some cs):o.rq s t i j n=some cs:=by
 unfold Own.rq at*;cases hg:(o.u7 l).get s t with
 |none=>simp[hg]at h
 |some b=>
  rw[nU o l s t b hg];simpa [hg]using h
theorem Aio{o:Own}{l:u_}{v:AV}{es:v_}(h:FB (o.u7 l) v=some es):FB o v=some es:=by
 cases v with
 |y8 v=>cases v<;>exact h
 |row s t z off len=>
  simp only[FB]at h⊢;cases hg:(o.u7 l).get s t with
  |none=>simp[hg]at h
  |some b=>
   rw[nU o l s t b hg];simpa [hg]using h
 |_=>exact h
theorem YP{α β:Type}{f g:α->Option β}(hfg:∀x y,f x=some y->g x=some y):∀{l:List α}{l':List β},l.mapM f=some l'->l.mapM g=some l'
 |[],l',h=>by simpa using h
 |x::r,l',h=>by
  simp only[ub,qb,Eb]at h⊢;cases hx:f x with
  |none=>simp[hx]at h
  |some y=>
   cases hr:r.mapM f with
   |none=>simp[hx,hr]at h
   |some r'=>
    simp[hx,hr]at h;simp[hfg x y hx,YP hfg hr,h]
theorem rX(o:Own)(l:u_)(b:Bool):∀(d:Nat)(c c':AV),snap (o.u7 l) b d c=some c'->snap o b d c=some c'
 |0,c,c',h=>by cases c<;>simp_all[snap]
 |d+1,c,c',h=>by
  cases c<;>first|(simp_all[snap];done)|skip
  rename_i s t z off len;simp only[snap]at h⊢;cases he:FB (o.u7 l) (.row s t z off len)with
  |none=>simp[he]at h
  |some es=>
   simp only[he]at h;rw[Aio he];simp only[sa]at h⊢;obtain⟨es',h1,h2⟩:=h;exact⟨es',YP (λx y hx=>YP (rX o l b d) hx) h1,h2⟩
theorem Adg(o:Own)(l:u_)(b:Bool)(c c':AV)(h:DD (o.u7 l) b c=some c'):DD o b c=some c':=by
 cases c<;>first|exact rX o l b 6 _ _ h|skip
 simp only[DD,sa]at h⊢;obtain⟨cs,h1,h2⟩:=h;exact⟨cs,YP (rX o l b 6) h1,h2⟩
theorem Ann(o:Own)(l:u_)(b:Bool)(c c':AV)(h:QI (o.u7 l) b c=some c'):QI o b c=some c':=by
 rcases Classical.em (c = .nil)with rfl|hc
 ·exact h
 ·have e:∀o:Own,QI o b c=DD o b c:=λo=>by cases c<;>first|rfl|exact(hc rfl).elim
  rw[e]at h⊢;exact Adg o l b _ _ h
theorem AlE{o:Own}{l:u_}{b:Bool}{xs vs:w_}(h:xs.mapM (QI (o.u7 l) b)=some vs):xs.mapM (QI o b)=some vs:=YP (Ann o l b) h
theorem AlC{o:Own}{l:u_}{b:Bool}{xs vs:w_}(h:xs.mapM (DD (o.u7 l) b)=some vs):xs.mapM (DD o b)=some vs:=YP (Adg o l b) h
theorem AnI{own q8:Own}{s t i j:Nat}{vs:w_}(h:own.py s t i j vs=some q8):own.put s (q8 s)=q8:=by
 unfold Own.py at h;cases hg:own.get s t with
 |none=>simp[hg]at h
 |some b=>
  simp only[hg]at h;cases he:b.es[i]? with
  |none=>simp[he]at h
  |some cs=>
   simp only[he]at h;split at h
   ·obtain rfl:=na h
    rw[Own.n9]
   ·cases h
theorem Aoe{n:Int}(h0:-9223372036854775808<=n)(h1:n<=9223372036854775807):(Lit.int .i64 n).wf=true:=by
 simp[Lit.wf,IntKind.min,IntKind.max,IntKind.signed,IntKind.bits];omega
theorem WZ{op:EF}{s:Nat}(h:Y7 op=true)(hs:EY op=some s):s<EP:=by
 simp only[Y7,hs,ya]at h;have:=h.1
 simpa [uf]using this
theorem Anh{s a7 bytes:Nat}{x y:AL}(h:Y7 (.app s a7 bytes x y)=true):s<EP:=by
 simp only[Y7,ya]at h;have:=h.2
 simpa [uf]using this
theorem Ain{I:E0}(hC:HU I P num C B w0)(hm:BJ B S w0 m)(hs:CM B S m ρ a.eval){Bh:EF}(k8:A9 P num o.op Bh=true)(mc:Y7 Bh=true){E:B9}(h:j4 C b9 ρ m.own Bh=some E):CQ B S w0 P o a m E:=by
 cases Bh with
 |q9 x=>simp only[j4,za]at h;subst h;exact AhX hm hs k8
 |ak s z=>simp only[j4,za]at h;subst h;exact Ah6 hm (WZ mc rfl) k8
 |pick c x y=>
  simp only[j4]at h;split at h
  ·rename_i hc;simp only[za]at h;subst h;exact xA hm hs k8 hc
  ·rename_i hc;simp only[za]at h;subst h;exact xA hm hs k8 hc
  ·cases h
 |bin f x y=>
  simp only[j4]at h;split at h
  ·rename_i k n k' n' hx hy
   simp only[sa]at h;obtain⟨v,hv,rfl⟩:=h;exact Ahu hm hs k8 hx hy hv
  ·cases h
 |beq ne x y=>
  simp only[j4]at h;split at h
  ·rename_i b b' hx hy
   simp only[za]at h;subst h;exact Aht hm hs k8 hx hy
  ·cases h
 |un f x=>
  simp only[j4,sa]at h;obtain⟨v,hv,rfl⟩:=h;exact Ah5 hm hs k8 hv
 |conv k x=>
  simp only[j4]at h;split at h
  ·rename_i k' n hx
   simp only[za]at h;subst h;exact AhE hm hs k8 hx
  ·cases h
 |box s x=>
  simp only[j4]at h;split at h
  ·rename_i cs lu
   simp only[za]at h;subst h;exact Ahv hm hs (WZ mc rfl) k8 lu
  ·cases h
 |alloc s z=>simp only[j4,za]at h;subst h;exact Ahr hm (WZ mc rfl) k8
 |build z ps=>
  simp only[j4,sa]at h;obtain⟨cs,lu,rfl⟩:=h;exact Ahx hm hs k8 lu
 |b8 s a7 ps=>
  simp only[j4]at h;split at h
  ·rename_i es fu
   split at h
   ·rename_i hz
    simp only[za]at h;subst h;exact Ahw hm hs (WZ mc rfl) k8 fu hz
   ·cases h
  ·cases h
 |lit a7 ps=>
  simp only[j4]at h;split at h
  ·rename_i es fu
   split at h
   ·rename_i hz
    simp only[za]at h;subst h;exact AhQ hm hs k8 fu hz
   ·cases h
  ·cases h
 |o4 x off=>
  simp only[j4]at h;split at h
  ·rename_i s t i j hx
   simp only[za]at h;subst h;exact AhH hm hs k8 hx
  ·rename_i cs hx
   simp only[za]at h;subst h;exact AhG hm hs k8 hx
  ·cases h
 |og x off n agg=>
  simp only[j4]at h;split at h
  ·rename_i cs hx
   split at h
   ·rename_i ds hp
    simp only[sa]at h;obtain⟨v,hv,rfl⟩:=h;exact AhI hm hs k8 hx hp hv
   ·cases h
  ·cases h
 |u4 arr a7 x i=>
  simp only[j4]at h;split at h
  ·rename_i k n hi
   split at h
   ·rename_i len s t i' j hx
    split at h
    ·rename_i hn
     simp only[za]at h;subst h;exact AhJ hm hs k8 hi hx hn.1 hn.2
    ·cases h
   ·rename_i len cs hx
    split at h
    ·rename_i hn
     simp only[za]at h;subst h;exact AhK hm hs k8 hi hx hn.1 hn.2
    ·cases h
   ·rename_i s t z off len hx
    split at h
    ·rename_i hn
     simp only[za]at h;subst h;exact AhL hm hs k8 hi hx hn.1 hn.2.1 hn.2.2
    ·cases h
   ·rename_i l es hx
    split at h
    ·rename_i h0
     split at h
     ·rename_i cs lu
      split at h
      ·rename_i hz
       simp only[za]at h;subst h;exact AhM hm hs k8 hi hx h0 lu hz
      ·cases h
     ·cases h
    ·cases h
   ·cases h
  ·cases h
 |ld agg n x=>
  simp only[j4]at h;split at h
  ·rename_i s t i j hx
   split at h
   ·rename_i cs lu
    simp only[sa]at h;obtain⟨v,hv,rfl⟩:=h;exact AhO hm hs k8 hx (Alm lu) hv
   ·cases h
  ·rename_i cs hx
   split at h
   ·rename_i ds hp
    simp only[sa]at h;obtain⟨v,hv,rfl⟩:=h;exact AhN hm hs k8 hx hp hv
   ·cases h
  ·cases h
 |st n x v=>
  simp only[j4]at h;split at h
  ·rename_i s t i j vs hx iq
   split at h
   ·rename_i hn
    simp only[sa]at h;obtain⟨q8,ho,rfl⟩:=h;exact xG hm hs k8 hx iq hn ho
   ·cases h
  ·cases h
 |mk s a7 bytes zero l c=>
  simp only[j4]at h;split at h
  ·rename_i kl a' kc b' hl hc
   split at h
   ·rename_i hn
    simp only[za]at h;subst h;exact AhR hm hs (WZ mc rfl) k8 hl hc hn.1 hn.2.1 hn.2.2.1 hn.2.2.2.1 hn.2.2.2.2
   ·cases h
  ·cases h
 |iz a7 x lo hi=>
  simp only[j4]at h;have bnd:∀(d:Nat)(y:Option AL)(q:Nat),(match y with|none=>some d|some o=>match ρ o with |.int _ n=>if 0<=n/\n<=d then some n.toNat else none|_=>none)=some q->∃n:Int,JB ρ d y=some n/\0<=n/\n<=d/\q=n.toNat:=λd y q hq=>by
   cases y with
   |none=>simp only[za]at hq;subst hq;exact⟨d,rfl,O',O',Z'⟩
   |some y=>
    simp only at hq;cases hy:ρ y with
    |int k n=>
     simp only[hy]at hq;split at hq
     ·rename_i hn
      simp only[za]at hq;subst hq;exact⟨n,by simp[JB,hy],hn.1,hn.2,rfl⟩
     ·cases hq
    |_=>simp[hy]at hq
  have Fp:∀(y:Option AL)(q:Nat),(match y with|none=>some 0|some o=>match ρ o with |.int _ n=>if 0<=n then some n.toNat else none|_=>none)=some q->∃n:Int,JB ρ 0 y=some n/\0<=n/\q=n.toNat:=λy q hq=>by
   cases y with
   |none=>simp only[za]at hq;subst hq;exact⟨0,rfl,O',Z'⟩
   |some y=>
    simp only at hq;cases hy:ρ y with
    |int k n=>
     simp only[hy]at hq;split at hq
     ·rename_i hn
      simp only[za]at hq;subst hq;exact⟨n,by simp[JB,hy],hn,rfl⟩
     ·cases hq
    |_=>simp[hy]at hq
  have Fq:∀(y:Option AL)(q:Nat),(match y with|none=>some 0|some o=>match ρ o with |.int _ n=>if n=0 then some 0 else none|_=>none)=some q->JB ρ 0 y=some 0:=λy q hq=>by
   cases y with
   |none=>rfl
   |some y=>
    simp only at hq;cases hy:ρ y with
    |int k n=>
     simp only[hy]at hq;split at hq
     ·rename_i hn
      subst hn;simp[JB,hy]
     ·cases hq
    |_=>simp[hy]at hq
  split at h
  ·rename_i l es hx
   split at h
   ·rename_i q1 q2 h1 h2
    split at h
    ·rename_i hq
     simp only[za]at h;subst h;obtain⟨n1,b1,c1,rfl⟩:=Fp _ _ h1;obtain⟨n2,b2,c2,c3,rfl⟩:=bnd _ _ _ h2;exact Ah3 hm hs k8 hx b1 b2 c1 O' c3 hq.2
    ·cases h
   ·cases h
  ·rename_i hx
   split at h
   ·rename_i q1 q2 h1 h2
    simp only[za]at h;subst h;exact Ah1 hm hs k8 hx (Fq _ _ h1) (Fq _ _ h2)
   ·cases h
  ·rename_i s t z off len hx
   split at h
   ·rename_i q1 q2 h1 h2
    split at h
    ·rename_i hq
     simp only[za]at h;subst h;obtain⟨n1,b1,c1,rfl⟩:=Fp _ _ h1;obtain⟨n2,b2,c2,c3,rfl⟩:=bnd _ _ _ h2;exact Ah2 hm hs k8 hx b1 b2 c1 O' c3 hq.2
    ·cases h
   ·cases h
  ·cases h
 |ext x i=>
  simp only[j4]at h;split at h
  ·rename_i vs hx
   simp only[sa]at h;obtain⟨v,hv,rfl⟩:=h;exact AhF hm hs k8 hx hv
  ·cases h
 |len x=>
  simp only[j4]at h;split at h
  ·rename_i n hn
   simp only[za]at h;subst h;exact AhP hm hs k8 hn
  ·cases h
 |mm mx xs=>
  simp only[j4]at h;split at h
  ·cases h
  ·rename_i v r hx
   simp only[sa]at h;obtain⟨q,hq,rfl⟩:=h;exact AhW hm hs k8 hx hq
 |app s a7 bytes x y=>
  simp only[j4]at h;split at h
  ·rename_i ys qk
   split at h
   ·rename_i hz
    split at h
    ·rename_i s' t z len hx
     split at h
     ·rename_i b hb
      split at h
      ·rename_i hn
       obtain⟨n1,rfl,n3,n4,n5⟩:=hn;simp only[za]at h;subst h;exact mE hm hs k8 qk hz hx hb n1 n3 n4 n5
      ·cases h
     ·cases h
    ·rename_i hx
     split at h
     ·rename_i hn
      simp only[za]at h;subst h;exact wY hm hs (Anh mc) k8 qk hz hx hn.1 hn.2
     ·cases h
    ·cases h
   ·cases h
  ·cases h
 |call f xs=>
  simp only[j4]at h;split at h
  ·rename_i vs iq
   simp only[sa]at h;obtain⟨r,hr,rfl⟩:=h;exact Ahy hC hm hs k8 (AlC iq) hr
  ·cases h
 |j6 f xs=>
  simp only[j4]at h;split at h
  ·simp only[sa]at h
   obtain⟨r,hr,rfl⟩:=h;exact mF hC hm hs k8 ((dZ hr).2 m.own λ_ _=>rfl)
  ·simp only[sa]at h
   obtain⟨r,hr,rfl⟩:=h;exact mF hC hm hs k8 hr
 |uh ne x=>
  simp only[j4]at h;split at h
  ·rename_i hx
   simp only[za]at h;subst h;exact fH hm hs k8 (b:=true) λv hv=>by rw[hx]at hv;exact⟨none,0,0,VV hv,rfl⟩
  ·rename_i b hx
   simp only[za]at h;subst h;exact fH hm hs k8 (b:=b) λv hv=>by
    rw[hx]at hv;obtain⟨ad,c,h1,h2⟩:=wD hv;exact⟨ad,0,c,h1,h2⟩
  ·rename_i hx
   simp only[za]at h;subst h;exact fH hm hs k8 (b:=false) λv hv=>by rw[hx]at hv;exact Ag9 hv
  ·rename_i hx
   simp only[za]at h;subst h;exact fH hm hs k8 (b:=false) λv hv=>by rw[hx]at hv;exact Ag8 hv
  ·cases h
 |bad=>
  have h:(none:Option B9)=some E:=h;cases h
 |qo s=>simp only[j4,za]at h;subst h;exact AhT hm k8
 |oa a7 bytes x y=>
  simp only[j4]at h;split at h
  ·rename_i ys s t z hy hx
   split at h
   ·rename_i b o5
    split at h
    ·rename_i hc
     obtain⟨c1,c2,c3,c4,c5⟩:=hc;obtain rfl:=na h;subst c3;exact Ahs hm hs k8 hy c1 hx o5 c2 c4 c5
    ·cases h
   ·cases h
  ·cases h
 |fm fs f a7 x c=>
  simp only[j4]at h;split at h
  ·rename_i f' g hc
   split at h
   ·rename_i hg
    obtain⟨c1,c2,c3⟩:=hg;subst c1 c2;split at h
    ·rename_i hx
     obtain rfl:=na h;exact xF hC hm hs k8 hc c3 (λv hv=>by rw[hx]at hv;exact⟨none,0,VV hv⟩)
    ·rename_i s t z len hx
     split at h
     ·rename_i b o5
      split at h
      ·rename_i hq
       obtain⟨q1,q2,q3,q4⟩:=hq;subst q2;simp only[sa]at h;obtain⟨es',he,rfl⟩:=h;exact Ah4 hC hm hs k8 hc c3 hx o5 q1 q3 q4 (Adn.1 he)
      ·cases h
     ·cases h
    ·cases h
   ·cases h
  ·cases h
 |ru x k=>
  simp only[j4]at h;split at h
  ·rename_i s t b hx jy
   split at h
   ·rename_i c9 o5
    split at h
    ·rename_i hc
     simp only[za]at h;subst h;exact AhU hm hs k8 hx jy (nU _ _ _ _ _ o5) (by simp only[maxLen];omega) (by simp only[maxLen];omega)
    ·cases h
   ·cases h
  ·cases h
 |qp x k v=>
  simp only[j4]at h;split at h
  ·rename_i s t b n hx jy qi
   split at h
   ·rename_i c9 o5
    split at h
    ·rename_i hc
     obtain⟨c1,c2,c3,c4⟩:=hc;simp only[za]at h;subst h;exact AhY hm hs k8 hx jy qi o5 (by simp only[maxLen];omega) (by simp only[maxLen];omega) (Aoe c3 c4)
    ·cases h
   ·cases h
  ·cases h
 |mg x=>
  simp only[j4]at h;split at h
  ·rename_i hx
   simp only[za]at h;subst h;exact AhZ hm hs k8 hx
  ·cases h
 |dh s f xs=>
  simp only[j4,sa]at h;obtain⟨p,hp,rfl⟩:=h;exact mF hC hm hs (AkQ k8) (eB.1 hp m.own rfl)
 |jg tb x=>
  simp only[j4]at h;split at h
  ·rename_i k n hx
   split at h
   ·rename_i h0
    split at h
    ·rename_i v hv
     simp only[za]at h;subst h;exact Ah0 hm hs k8 hx h0 hv
    ·cases h
   ·cases h
  ·cases h
 |qm p f xs=>
  simp only[j4,sa]at h;obtain⟨cs,lu,rfl⟩:=h;rw[hC.c.num];exact AhS hm hs k8 lu
 |o8 f xs=>
  simp only[j4]at h;split at h
  ·rename_i hq
   split at h
   ·rename_i r hr
    split at h
    ·rename_i jc
     simp only[za]at h;subst h;exact AhB hC hm hs k8 hq hr jc
    ·cases h
   ·cases h
  ·cases h
 |y5 s f xs=>
  simp only[j4]at h;split at h
  ·rename_i vs iq
   simp only[sa]at h;obtain⟨⟨z,es⟩,hr,rfl⟩:=h;exact AhC hC hm hs (WZ mc rfl) k8 (AlE iq) hr
  ·cases h
 |dw s a7 bytes x y=>
  simp only[j4]at h;split at h
  ·rename_i l ys s' t z len hy hx
   split at h
   ·rename_i b hb
    split at h
    ·rename_i hn
     obtain⟨rfl,hz,n1,rfl,n3,n4,n5⟩:=hn;simp only[za]at h;subst h;have:=mE hm hs (Vl k8) (ys:=ys) (by rw[hy];rfl) hz hx hb n1 n3 n4 n5
     intro K Q hK;exact this K Q λu m' h1 h2 h3 h4=>hK u m' h1 h2 h3 h4
    ·cases h
   ·cases h
  ·rename_i l ys hy hx
   split at h
   ·rename_i hn
    simp only[za]at h;subst h;have:=wY hm hs (WZ mc rfl) (Vl k8) (ys:=ys) (by rw[hy];rfl) hn.1 hx hn.2.1 hn.2.2
    intro K Q hK;exact this K Q λu m' h1 h2 h3 h4=>hK u m' h1 h2 h3 h4
   ·cases h
  ·cases h
 |qt s n x v=>
  simp only[j4]at h;split at h
  ·rename_i s' t i j vs hx iq
   split at h
   ·rename_i hn
    obtain⟨rfl,hn⟩:=hn;simp only[sa]at h;obtain⟨q8,ho,rfl⟩:=h;have:=xG hm hs (Ak3 k8) hx iq hn ho
    intro K Q hK;refine this K Q λu m' h1 h2 h3 h4=>hK u m' ?_ h2 h3 h4
    rw[h1];exact(AnI ho).symm
   ·cases h
  ·cases h
 |v8 x xs=>
  simp only[j4]at h;split at h
  ·rename_i p f g cs hx
   split at h
   ·rename_i hg
    rw[hC.c.num]at hg;subst hg;split at h
    ·split at h
     ·rename_i vs iq
      simp only[sa]at h;obtain⟨r,hr,rfl⟩:=h;exact AhA hC hm hs k8 hx iq hr
     ·cases h
    ·simp only[sa]at h
     obtain⟨r,hr,rfl⟩:=h;exact AhD hC hm hs k8 hx hr
    ·split at h
     ·rename_i vs iq
      simp only[sa]at h;obtain⟨r,hr,rfl⟩:=h;exact Ahz hC hm hs k8 hx iq hr
     ·cases h
   ·cases h
  ·cases h
end
end Go.e9

namespace Go.e9
open Go.RowKit
def EI(T:Nat->AV):AL->AV
 |.t n=>T n
 |.c v=>v
def LM(T:Nat->AV)(d:Option Nat)(v:AV):Nat->AV:=λj=>if d=some j then v else T j
def N2(T:Nat->AV):Option (Nat×Bool)->Option Bool
 |none=>some true
 |some (g,want)=>match T g with
  |.bool b=>some (b == want)
  |.j5 []=>some false
  |_=>none
theorem yL(st:St):st.ev=EI (j8 st.tm):=by funext x;cases x<;>rfl
theorem Akk(st:St)(g:Option (Nat×Bool)):GL st g=N2 (j8 st.tm) g:=rfl
theorem xL(st:St)(d:Option Nat)(v:AV):j8 (st.dst d v).tm=LM (j8 st.tm) d v:=by
 cases d with
 |none=>funext j;simp[St.dst,LM]
 |some d=>
  funext j
  simp only[St.dst,LM,cQ];by_cases h:j=d
  ·simp[h]
  ·simp[h,Ne.symm h]
theorem Af7(st:St)(d:Option Nat)(E:B9):j8 (st.app d E).tm=LM (j8 st.tm) d (E.valOf st.own):=by
 cases E<;>simp only[St.app,B9.valOf]<;>exact xL st d _
theorem xM(st:St)(d:Option Nat)(v:AV):(st.dst d v).own=st.own:=by cases d<;>rfl
theorem Af6(st:St)(d:Option Nat)(E:B9):(st.app d E).own=E.ax st.own:=by
 cases E with
 |val v=>simp only[St.app,B9.ax];exact xM st d v
 |_=>rfl
section
variable {B:Nat} {S:Nat->Prop} {w0:GG} {m0:M} {N:Nat}
variable {P:Program} {num:Nat->Nat} {C:Cl} {Q:Exit->Act->World->Prop}
structure GX(B:Nat)(S:Nat->Prop)(w0:GG)(m0:M)(N:Nat)(T:Nat->AV)(m:M)(a:Act):Prop where
 mem:BJ B S w0 m
 ext:DB B S m0 m
 tm:∀i,CV B S m (T i) (a.tmps.getD i undef)
 size:a.tmps.size=N
 defers:a.defers=[]
theorem GX.put{T:Nat->AV}{m m':M}{a:Act}(h:GX B S w0 m0 N T m a)(d:Option Nat)(hd:∀k,d=some k->k<N){v:AV}{u:Value}(hm:BJ B S w0 m')(he:DB B S m m')(hc:CV B S m' v u):GX B S w0 m0 N (LM T d v) m' (a.put d u):=by
 refine⟨hm,h.ext.trans he,λi=>?_,?_,?_⟩
 ·cases d with
  |none=>simpa [LM,Act.put]using he.cv (h.tm i)
  |some k=>
   have hk:k<a.tmps.size:=by rw[h.size];exact hd k rfl
   by_cases Hk:i=k
   ·subst Hk
    simp only[LM,if_true,Act.put];simpa [Hc,hk]using hc
   ·have q6:¬(some k=some i):=λe=>Hk (by simpa using e.symm)
    simp only[LM,if_neg q6,Act.put];have:(a.tmps.setIfInBounds k u).getD i undef=a.tmps.getD i undef:=by
     simp[Array.getElem?_setIfInBounds_ne (Ne.symm Hk)]
    rw[this];exact he.cv (h.tm i)
 ·cases d<;>simp[Act.put,h.size]
 ·cases d<;>simpa [Act.put]using h.defers
theorem GX.says{T:Nat->AV}{m:M}{a:Act}(h:GX B S w0 m0 N T m a):CM B S m (EI T) a.eval:=Am4 (λ_=>rfl) (λ_=>rfl) h.tm
theorem Aoc{T:Nat->AV}{m:M}{a:Act}(h:GX B S w0 m0 N T m a){ops:Array Oper}{o:Oper}{g':Option (Nat×Bool)}(hg:bL ops o.guard g'=true){g:Bool}(nb:N2 T g'=some g):Region.wanted o (yielded ops a.tmps)=g:=by
 unfold Region.wanted;cases Pj:o.guard with
 |none=>
  cases g' with
  |none=>simp[N2]at nb;simp[nb]
  |some _=>simp[bL,Pj]at hg
 |some jw=>
  obtain⟨j,want⟩:=jw;cases g' with
  |none=>simp[bL,Pj]at hg
  |some tw=>
   obtain⟨t,AqP⟩:=tw;simp only[bL,Pj,ya,beq_iff_eq]at hg;obtain⟨rfl,hg⟩:=hg;split at hg
   ·rename_i oj Kw
    have Oe:oj.dst=some t:=by simpa using hg
    have y7:=h.tm t;simp only[N2]at nb;unfold yielded;simp only[Kw,Option.bind_some,Oe];split at nb
    ·rename_i b hb
     rw[hb]at y7;have hv:=VU y7;have o5:a.tmps[t]?=some (.bool b):=by
      cases ht:a.tmps[t]? with
      |none=>simp[ht,undef]at hv
      |some x=>simp[ht]at hv;rw[hv]
     simp only[o5];simp at nb;rw[<-nb];cases b<;>cases want<;>rfl
    ·rename_i hb
     rw[hb]at y7;obtain⟨vs,hv,hl,_⟩:=lR y7;have:vs=[]:=ma (by simpa using hl.symm)
     subst this;simp at nb;subst nb;cases ht:a.tmps[t]? with
     |none=>rfl
     |some x=>
      simp[ht]at hv;subst hv;rfl
    ·cases nb
   ·cases hg
theorem Zb{I:E0}(hC:HU I P num C B w0){ops:Array Oper}{i:Nat}{o:Oper}{ai:AI}(hi:ops[i]?=some o)(k8:iP P num N ops o ai=true){T:Nat->AV}{m:M}{a:Act}(hf:GX B S w0 m0 N T m a){g:Bool}(hg:N2 T ai.guard=some g){E:B9}
  (hE:g=true->j4 C ai.b9 (EI T) m.own ai.op=some E) {K:Act->World->Prop} (hK:∀m' a',m'.own=(if g then E.ax m.own else m.own)->GX B S w0 m0 N (LM T ai.dst (if g then E.valOf m.own else .j5 [])) m' a'->K a' m'.w):wpOp P ops Q i K a m.w:=by
 simp only[iP,ya,beq_iff_eq]at k8;obtain⟨⟨⟨⟨h1,h2⟩,h3⟩,h4⟩,h5⟩:=k8;have hd:∀k,o.dst=some k->k<N:=λk hk=>by
  rw[h1]at hk;rw[hk]at h2;simpa using h2
 unfold wpOp;simp only[hi,Aoc hf h3 hg];cases g with
 |true=>
  simp only[if_true];refine .inl (Ain hC hf.mem hf.says h4 h5 (hE rfl) K Q λu m' l8 lj fy y7=>?_);refine hK m' _ (by simpa using l8) ?_;rw[<-h1];exact hf.put o.dst hd lj fy y7
 |false=>
  simp only[Ga,if_false];refine hK m _ Z' ?_;rw[<-h1];exact hf.put o.dst hd hf.mem (DB.refl m) Ux
theorem Adt{o:AI}{st o6:St}(h:C5 C o st=some o6):∃g E,N2 (j8 st.tm) o.guard=some g/\(g=true->j4 C o.b9 (EI (j8 st.tm)) st.own o.op=some E)/\j8 o6.tm=LM (j8 st.tm) o.dst (if g then E.valOf st.own else .j5 [])/\o6.own=(if g then E.ax st.own else st.own):=by
 unfold C5 at h;rw[Akk]at h;cases hg:N2 (j8 st.tm) o.guard with
 |none=>simp[hg]at h
 |some g=>
  cases g with
  |true=>
   simp only[hg,sa]at h;obtain⟨E,hE,rfl⟩:=h;rw[yL]at hE;exact⟨true,E,rfl,λ_=>hE,Af7 st o.dst E,Af6 st o.dst E⟩
  |false=>
   simp only[hg,za]at h;subst h;exact⟨false,.val .any,rfl,λh=>(by cases h),xL st o.dst _,xM st o.dst _⟩
theorem bM{ops:Array Oper}:∀{os:List Oper}{l:List AI},RG P num N ops os l=true->os.length=l.length/\∀(i:Nat)(o:Oper)(x:AI),os[i]?=some o->l[i]?=some x->iP P num N ops o x=true
 |[],[],_=>⟨rfl,λi o x h=>by simp at h⟩
 |o::r,x::l,h=>by
  simp only[RG,ya]at h;obtain⟨h1,h2⟩:=bM h.2;refine⟨by simp[h1],λi o' x' ho hx=>?_⟩;cases i with
  |zero=>simp at ho hx;subst ho hx;exact h.1
  |succ i=>exact h2 i o' x' (by simpa using ho) (by simpa using hx)
 |[],_::_,h=>by simp[RG]at h
 |_::_,[],h=>by simp[RG]at h
theorem Zd{I:E0}(hC:HU I P num C B w0){ops:Array Oper}{l:List AI}(k8:RG P num N ops ops.toList l=true):∀(n k:Nat)(st o6:St)(m:M)(a:Act),n+k=ops.size->DT C (l.drop k) st=some o6->m.own=st.own->GX B S w0 m0 N (j8 st.tm) m a ->
  (∀m' a',m'.own=o6.own->GX B S w0 m0 N (j8 o6.tm) m' a'->Q .normal a' m'.w)->wpOps P ops Q (List.range' k n) a m.w
 |0,k,st,o6,m,a,hk,hs,l8,hf,hQ=>by
  have hl:=(bM k8).1;simp at hl;rw[List.drop_eq_nil_of_le O']at hs;simp only[DT,za]at hs;subst hs;simpa [wpOps]using hQ m a l8 hf
 |n+1,k,st,o6,m,a,hk,hs,l8,hf,hQ=>by
  obtain⟨hl,hg⟩:=bM k8;simp at hl;have ua:k<l.length:=O'
  have hko:k<ops.size:=O'
  rw[Md ua]at hs;simp only[DT]at hs;cases o7:C5 C l[k] st with
  |none=>simp[o7]at hs
  |some BA=>
   simp only[o7]at hs;obtain⟨g,E,h1,h2,h3,h4⟩:=Adt o7;rw[List.range'_succ,wpOps_cons];have hoi:ops[k]?=some ops[k]:=cd hko;refine Zb hC hoi (hg k ops[k] l[k] (by simp[hko]) (zE ua)) hf h1 (λdi=>by rw[l8];exact h2 di) λm' a' mo ot=>?_
   refine Zd hC k8 n (k+1) BA o6 m' a' O' hs ?_ ?_ hQ
   ·rw[mo,l8,h4]
   ·rw[l8]at ot
    rw[h3];exact ot
end
end Go.e9

namespace Go.e9
open Go.RowKit
section
variable {T T':Nat->AV} {C:Cl} {b9:u_} {own:Own}
theorem C9{x:AL}(h:∀t∈CN x,T t=T' t):EI T x=EI T' x:=by
 cases x with
 |t n=>exact h n (by simp[CN])
 |c v=>rfl
theorem WL{xs:List AL}(h:∀t∈xs.flatMap CN,T t=T' t):xs.map (EI T)=xs.map (EI T') :=
 Ob λx hx=>C9 λt ht=>h t (Fb.2 ⟨x,hx,ht⟩)
theorem Yg{x:Option AL}(h:∀t∈qJ x,T t=T' t){y:AL}(hy:x=some y):EI T y=EI T' y:=by
 subst hy;exact C9 h
theorem Aii{op:EF}(h:∀t∈HQ op,T t=T' t):j4 C b9 (EI T) own op=j4 C b9 (EI T') own op:=by
 cases op with
 |build z ps=>
  simp only[j4];congr 2;refine Ob λp hp=>?_
  rw[C9 (x:=p.2.2) λt ht=>h t (by simp only[HQ];exact Fb.2 ⟨p,hp,ht⟩)]
 |b8 s a7 ps=>
  have hm:ps.mapM (λx=>cellsOf (EI T x))=ps.mapM (λx=>cellsOf (EI T' x)):=by
   have e:∀l:List AL,(∀x∈l,EI T x=EI T' x)->l.mapM (λx=>cellsOf (EI T x))=l.mapM (λx=>cellsOf (EI T' x)):=by
    intro l;induction l with
    |nil=>intro _;rfl
    |cons x r ih=>intro hl;simp only[ub];rw[hl x Z',ih λy hy=>hl y (by simp[hy])]
   exact e ps λx hx=>C9 λt ht=>h t (by simp only[HQ];exact Fb.2 ⟨x,hx,ht⟩)
  simp only[j4,hm]
 |lit a7 ps=>
  have hm:ps.mapM (λx=>cellsOf (EI T x))=ps.mapM (λx=>cellsOf (EI T' x)):=by
   have e:∀l:List AL,(∀x∈l,EI T x=EI T' x)->l.mapM (λx=>cellsOf (EI T x))=l.mapM (λx=>cellsOf (EI T' x)):=by
    intro l;induction l with
    |nil=>intro _;rfl
    |cons x r ih=>intro hl;simp only[ub];rw[hl x Z',ih λy hy=>hl y (by simp[hy])]
   exact e ps λx hx=>C9 λt ht=>h t (by simp only[HQ];exact Fb.2 ⟨x,hx,ht⟩)
  simp only[j4,hm]
 |mm mx xs=>simp only[j4];rw[WL (xs:=xs) h]
 |call f xs=>simp only[j4];rw[WL (xs:=xs) h]
 |j6 f xs=>simp only[j4];rw[WL (xs:=xs) h]
 |uh ne x=>simp only[j4];rw[C9 (x:=x) h]
 |bad=>rfl
 |mg x=>simp only[j4];rw[C9 (x:=x) h]
 |qo s=>rfl
 |oa a7 bytes x y=>
  simp only[HQ,Ka]at h;simp only[j4];rw[C9 (x:=x) λt ht=>h t (.inl ht),C9 (x:=y) λt ht=>h t (.inr ht)]
 |fm fs f a7 x c=>
  simp only[HQ,Ka]at h;simp only[j4];rw[C9 (x:=x) λt ht=>h t (.inl ht),C9 (x:=c) λt ht=>h t (.inr ht)]
 |ru x k=>
  simp only[HQ,Ka]at h;simp only[j4];rw[C9 (x:=x) λt ht=>h t (.inl ht),C9 (x:=k) λt ht=>h t (.inr ht)]
 |qp x k v=>
  simp only[HQ,Ka]at h;simp only[j4];rw[C9 (x:=x) λt ht=>h t (.inl (.inl ht)),C9 (x:=k) λt ht=>h t (.inl (.inr ht)),C9 (x:=v) λt ht=>h t (.inr ht)]
 |jg tb x=>simp only[j4];rw[C9 (x:=x) h]
 |qm p f xs=>
  have e:∀l:List AL,(∀x∈l,EI T x=EI T' x)->l.mapM (λx=>IL (EI T x))=l.mapM (λx=>IL (EI T' x)):=by
   intro l;induction l with
   |nil=>intro _;rfl
   |cons x r ih=>intro hl;simp only[ub];rw[hl x Z',ih λy hy=>hl y (by simp[hy])]
  simp only[j4];rw[e xs λx hx=>C9 λt ht=>h t (by simp only[HQ];exact Fb.2 ⟨x,hx,ht⟩)]
 |o8 f xs=>simp only[j4];rw[WL (xs:=xs) h]
 |y5 s f xs=>simp only[j4];rw[WL (xs:=xs) h]
 |dh s f xs=>simp only[j4];rw[WL (xs:=xs) h]
 |qt s n x v=>
  simp only[HQ,Ka]at h;simp only[j4];rw[C9 (x:=x) λt ht=>h t (.inl ht),C9 (x:=v) λt ht=>h t (.inr ht)]
 |v8 x xs=>
  simp only[HQ,Ka]at h;simp only[j4];rw[C9 (x:=x) λt ht=>h t (.inl ht),WL (xs:=xs) λt ht=>h t (.inr ht)]
 |iz a7 x lo hi=>
  simp only[HQ,Ka]at h;have hx:EI T x=EI T' x:=C9 λt ht=>h t (.inl (.inl ht))
  have x6:∀y,lo=some y->EI T y=EI T' y:=λy hy=>Yg (λt ht=>h t (.inl (.inr ht))) hy
  have Kq:∀y,hi=some y->EI T y=EI T' y:=λy hy=>Yg (λt ht=>h t (.inr ht)) hy
  simp only[j4,hx];cases lo with
  |none=>cases hi with
   |none=>rfl
   |some y=>simp only[Kq y rfl]
  |some z=>cases hi with
   |none=>simp only[x6 z rfl]
   |some y=>simp only[x6 z rfl,Kq y rfl]
 |ak=>rfl
 |alloc=>rfl
 |q9 x=>simp only[j4];rw[C9 (x:=x) h]
 |un f x=>simp only[j4];rw[C9 (x:=x) h]
 |conv k x=>simp only[j4];rw[C9 (x:=x) h]
 |box s x=>simp only[j4];rw[C9 (x:=x) h]
 |o4 x off=>simp only[j4];rw[C9 (x:=x) h]
 |og x off n agg=>simp only[j4];rw[C9 (x:=x) h]
 |ld agg n x=>simp only[j4];rw[C9 (x:=x) h]
 |ext x i=>simp only[j4];rw[C9 (x:=x) h]
 |len x=>simp only[j4];rw[C9 (x:=x) h]
 |pick c x y=>
  simp only[HQ,Ka]at h;simp only[j4];rw[C9 (x:=c) λt ht=>h t (.inl (.inl ht)),C9 (x:=x) λt ht=>h t (.inl (.inr ht)),C9 (x:=y) λt ht=>h t (.inr ht)]
 |bin f x y=>
  simp only[HQ,Ka]at h;simp only[j4];rw[C9 (x:=x) λt ht=>h t (.inl ht),C9 (x:=y) λt ht=>h t (.inr ht)]
 |beq ne x y=>
  simp only[HQ,Ka]at h;simp only[j4];rw[C9 (x:=x) λt ht=>h t (.inl ht),C9 (x:=y) λt ht=>h t (.inr ht)]
 |u4 arr a7 x i=>
  simp only[HQ,Ka]at h;simp only[j4];rw[C9 (x:=x) λt ht=>h t (.inl ht),C9 (x:=i) λt ht=>h t (.inr ht)]
 |st n x v=>
  simp only[HQ,Ka]at h;simp only[j4];rw[C9 (x:=x) λt ht=>h t (.inl ht),C9 (x:=v) λt ht=>h t (.inr ht)]
 |mk s a7 bytes z l c=>
  simp only[HQ,Ka]at h;simp only[j4];rw[C9 (x:=l) λt ht=>h t (.inl ht),C9 (x:=c) λt ht=>h t (.inr ht)]
 |app s a7 bytes x y=>
  simp only[HQ,Ka]at h;simp only[j4];rw[C9 (x:=x) λt ht=>h t (.inl ht),C9 (x:=y) λt ht=>h t (.inr ht)]
 |dw s a7 bytes x y=>
  simp only[HQ,Ka]at h;simp only[j4];rw[C9 (x:=x) λt ht=>h t (.inl ht),C9 (x:=y) λt ht=>h t (.inr ht)]
theorem Se(o:Own)(l:u_)(s:Nat):o.u7 l s=if s∈l then⟨0,λ_=>none⟩else o s:=by
 induction l with
 |nil=>simp[Own.u7]
 |cons x r ih=>
  simp only[Own.u7,Jc];by_cases h:s=x
  ·simp[h]
  ·rw[if_neg h,ih]
   simp[h]
theorem Akz{o o':Own}{l:u_}(h:∀s,s ∉ l->o s=o' s):o.u7 l=o'.u7 l:=by
 funext s
 rw[Se,Se];split
 ·rfl
 ·rename_i hs;exact h s hs
end
section
variable {ops:Array Oper}
def inner(acc:Array Nat)(o:Oper):Nat:=o.after.foldl (λs e=>if Region.binds .any e then s ||| 2^e.on ||| acc.getD e.on 0 else s) 0
theorem AkF(acc:Array Nat)(o:Oper)(j:Nat)(h:(inner acc o).testBit j=true):∃e∈o.after,Region.binds .any e=true/\(e.on=j\/(acc.getD e.on 0).testBit j=true):=by
 unfold inner at h;rw[<-uc]at h;have key:∀(l:List Edge)(s:Nat),(l.foldl (λs e=>if Region.binds .any e then s ||| 2^e.on ||| acc.getD e.on 0 else s) s).testBit j=true->s.testBit j=true\/∃e∈l,Region.binds .any e=true/\(e.on=j\/(acc.getD e.on 0).testBit j=true):=by
  intro l;induction l with
  |nil=>intro s hs;exact .inl hs
  |cons e r ih=>
   intro s hs;simp only[td]at hs;rcases ih _ hs with h1|⟨e',jb,h2⟩
   ·by_cases hb:Region.binds .any e=true
    ·simp only[hb,if_true,Nat.testBit_or,Mb,Nat.testBit_two_pow,decide_eq_true_eq]at h1
     rcases h1 with(h1|h1)|h1
     ·exact .inl h1
     ·exact .inr ⟨e,Z',hb,.inl h1⟩
     ·exact .inr ⟨e,Z',hb,.inr h1⟩
    ·simp only[hb,Ga,if_false]at h1
     exact .inl h1
   ·exact .inr ⟨e',by simp[jb],h2⟩
 rcases key _ _ h with h|⟨e,he,h⟩
 ·simp at h
 ·exact⟨e,by simpa using he,h⟩
theorem Af9(i j:Nat)(h:((Region.before ops).getD i 0).testBit j=true):∃o,ops[i]?=some o/\∃e∈o.after,Region.binds .any e=true/\(e.on=j\/(e.on<i/\((Region.before ops).getD e.on 0).testBit j=true)):=by
 have key:∀(rest:List Oper)(done:List Oper)(acc:Array Nat),acc.size=done.length ->
   (∀i j,(acc.getD i 0).testBit j=true->∃o,done[i]?=some o/\∃e∈o.after,Region.binds .any e=true/\(e.on=j\/(e.on<i/\(acc.getD e.on 0).testBit j=true))) ->
   ∀i j,((rest.foldl (λacc o=>acc.push (inner acc o)) acc).getD i 0).testBit j=true->∃o,(done++rest)[i]?=some o/\∃e∈o.after,Region.binds .any e=true/\(e.on=j\/(e.on<i/\((rest.foldl (λacc o=>acc.push (inner acc o)) acc).getD e.on 0).testBit j=true)):=by
  intro rest;induction rest with
  |nil=>intro done acc hs hinv i j hj;simpa using hinv i j hj
  |cons o r ih=>
   intro done acc hs hinv i j hj;simp only[td]at hj⊢;have:=ih (done++[o]) (acc.push (inner acc o)) (by simp[hs]) (λi j jq=>?_) i j hj
   ·simpa using this
   ·have o5:∀k,k<acc.size->(acc.push (inner acc o)).getD k 0=acc.getD k 0:=λk hk=>by
     simp[Hc,hk,Nat.lt_succ_of_lt hk,Array.getElem_push_lt hk]
    by_cases hi:i<acc.size
    ·rw[o5 i hi]at jq
     obtain⟨o',zk,e,he,hb,eo⟩:=hinv i j jq;refine⟨o',by rw[Na O'];exact zk,e,he,hb,eo.imp id λ⟨h1,h2⟩=>⟨h1,by rw[o5 e.on O'];exact h2⟩⟩
    ·have Hj:i=acc.size:=by
      rcases Jb i (acc.push (inner acc o)).size with h1|h1
      ·simp at h1;omega
      ·have:(acc.push (inner acc o)).getD i 0=0:=by simp[Hc];intro h2;simp at h1;omega
       rw[this]at jq;simp at jq
     subst Hj;have eh:(acc.push (inner acc o)).getD acc.size 0=inner acc o:=by simp[Hc]
     rw[eh]at jq;obtain⟨e,he,hb,eo⟩:=AkF acc o j jq;refine⟨o,by rw[hs];simp,e,he,hb,eo.imp id λh2=>?_⟩;have k7:e.on<acc.size:=by
      rcases Jb e.on acc.size with h3|h3
      ·exact h3
      ·have:acc.getD e.on 0=0:=by simp[Hc];omega
       rw[this]at h2;simp at h2
     exact⟨k7,by rw[o5 e.on k7];exact h2⟩
 have hb:Region.before ops=ops.toList.foldl (λacc o=>acc.push (inner acc o)) #[]:=by
  unfold Region.before;rw[<-uc];rfl
 rw[hb]at h⊢;have:=key ops.toList [] #[] rfl (λi j jq=>by simp at jq) i j h
 simpa using this
def XL(ops:Array Oper)(X:Nat->Bool):Prop := ∀j o,X j=true->ops[j]?=some o->∀e∈o.after,Region.binds .any e=true->X e.on=true
theorem anc{X:Nat->Bool}(hX:XL ops X):∀(i:Nat),(∀o,ops[i]?=some o->∀e∈o.after,Region.binds .any e=true->X e.on=true)->∀j,((Region.before ops).getD i 0).testBit j=true->X j=true:=by
 intro i;induction i using Nat.strongRecOn with
 |ind i ih=>
  intro hi j hj;obtain⟨o,ho,e,he,hb,eo⟩:=Af9 i j hj;have hx:=hi o ho e he hb;rcases eo with h|⟨k7,h⟩
  ·rw[<-h];exact hx
  ·exact ih e.on k7 (λo' zk e' jb j9=>hX e.on o' hx zk e' jb j9) j h
theorem Amh{X:Nat->Bool}(hX:XL ops X){i j:Nat}(hi:∀o,ops[i]?=some o->∀e∈o.after,Region.binds .any e=true->X e.on=true)(k7:j<i)(h:KF (Region.before ops) i j=true):X j=true:=by
 unfold KF at h;rw[Nat.max_eq_left O',Nat.min_eq_right O']at h;exact anc hX i hi j h
theorem Yi{X:Nat->Bool}(hX:XL ops X){i j:Nat}(hj:X j=true)(k7:i<j)(h:KF (Region.before ops) i j=true):X i=true:=by
 unfold KF at h;rw[Nat.max_eq_right O',Nat.min_eq_left O']at h;exact anc hX j (λo ho e he hb=>hX j o hj ho e he hb) i h
end
section
variable {C:Cl}
abbrev D:=(Nat->AV)×Own
structure EB where
 d:Option Nat
 g:Bool
 E:B9
 v:AV
def EB.own(r:EB)(o:Own):Own:=if r.g then r.E.ax o else o
def EB.act(r:EB)(x:D):D:=(LM x.1 r.d r.v,r.own x.2)
structure QL(C:Cl)(x:AI)(r:EB)(s s':St):Prop where
 d:r.d=x.dst
 g:N2 (j8 s.tm) x.guard=some r.g
 E:r.g=true->j4 C x.b9 (EI (j8 s.tm)) s.own x.op=some r.E
 v:r.v=(if r.g then r.E.valOf s.own else .j5 [])
 act:(j8 s'.tm,s'.own)=r.act (j8 s.tm,s.own)
theorem trace:∀{l:List AI}{st o6:St},DT C l st=some o6->∃(σ:Nat->St) (rs:List EB),σ 0=st/\σ l.length=o6/\rs.length=l.length/\∀(k:Nat)(x:AI)(r:EB),l[k]?=some x->rs[k]?=some r->QL C x r (σ k) (σ (k+1))
 |[],st,o6,h=>by
  simp only[DT,za]at h;subst h;exact⟨λ_=>st,[],rfl,rfl,rfl,λk x r hx=>by simp at hx⟩
 |o::q,st,o6,h=>by
  simp only[DT]at h;cases hs:C5 C o st with
  |none=>simp[hs]at h
  |some BA=>
   simp only[hs]at h;obtain⟨σ,rs,h0,h1,hl,h2⟩:=trace h;obtain⟨g,E,e1,e2,e3,e4⟩:=Adt hs;refine⟨λk=>match k with|0=>st|k+1=>σ k,⟨o.dst,g,E,if g then E.valOf st.own else .j5 []⟩::rs,rfl,h1,by simp[hl],λk x r hx hr=>?_⟩;cases k with
   |zero=>
    simp at hx hr;subst hx hr;refine⟨rfl,e1,e2,rfl,?_⟩;show(j8 (σ 0).tm,(σ 0).own)=_;rw[h0,e3,e4];rfl
   |succ k=>exact h2 k x r (by simpa using hx) (by simpa using hr)
def EJ(X:Nat->Bool):List EB->Nat->D->D
 |[],_,x=>x
 |r::rs,k,x=>EJ X rs (k+1) (if X k then r.act x else x)
theorem nP(X:Nat->Bool):∀(l l':List EB)(k:Nat)(x:D),EJ X (l++l') k x=EJ X l' (k+l.length) (EJ X l k x)
 |[],l',k,x=>by simp[EJ]
 |r::rs,l',k,x=>by
  simp only[List.cons_append,EJ,Qc];rw[nP X rs l' (k+1)];congr 1;omega
theorem To{X Y:Nat->Bool}{t:Nat}:∀(l:List EB)(k:Nat)(x y:D),x.1 t=y.1 t->(∀i r,l[i]?=some r->r.d=some t->X (k+i)=Y (k+i))->(EJ X l k x).1 t=(EJ Y l k y).1 t
 |[],k,x,y,h,_=>h
 |r::rs,k,x,y,h,vn=>by
  simp only[EJ];refine To rs (k+1) _ _ ?_ λi r' hr hd=>by
   have:=vn (i+1) r' (by simpa using hr) hd
   rw[show k+1+i=k+(i+1)by omega];exact this
  by_cases hd:r.d=some t
  ·have hx:X k=Y k:=by simpa using vn 0 r rfl hd
   rw[hx];cases Y k
   ·simpa using h
   ·simp[EB.act,LM,hd]
  ·have e1:∀z:D,(r.act z).1 t=z.1 t:=λz=>by simp[EB.act,LM,hd]
   cases X k<;>cases Y k<;>simp[e1,h]
theorem Ami(E:B9)(s:Nat)(o o':Own)(h:o s=o' s):E.ax o s=E.ax o' s:=by
 cases E with
 |val v=>exact h
 |new s' b v=>
  simp only[B9.ax,Own.put];by_cases hs:s=s'
  ·subst hs;simp[h]
  ·simp[hs,h]
 |Ae s' b v=>
  simp only[B9.ax,Own.put];by_cases hs:s=s'
  ·subst hs;simp[h]
  ·simp[hs,h]
 |cn v o2=>rfl
 |Bp s' v o2=>
  simp only[B9.ax,Own.put];by_cases hs:s=s'
  ·subst hs;simp[h]
  ·simp[hs]
 |tn s' x v=>
  simp only[B9.ax,Own.put];by_cases hs:s=s'
  ·simp[hs]
  ·simp[hs,h]
 |u5 s' x=>
  simp only[B9.ax,Own.put];by_cases hs:s=s'
  ·simp[hs]
  ·simp[hs,h]
theorem Tn{X Y:Nat->Bool}{s:Nat}:∀(l:List EB)(k:Nat)(x y:D),x.2 s=y.2 s->(∀i r,l[i]?=some r->X (k+i)=Y (k+i)\/∀o,r.own o s=o s)->(EJ X l k x).2 s=(EJ Y l k y).2 s
 |[],k,x,y,h,_=>h
 |r::rs,k,x,y,h,vn=>by
  simp only[EJ];refine Tn rs (k+1) _ _ ?_ λi r' hr=>by
   have:=vn (i+1) r' (by simpa using hr)
   rw[show k+1+i=k+(i+1)by omega];exact this
  rcases vn 0 r rfl with hx|hx
  ·simp only[Ec]at hx
   rw[hx];cases Y k
   ·simpa using h
   ·simp only[if_true,EB.act,EB.own]
    cases r.g
    ·simpa using h
    ·simpa using Ami r.E s _ _ h
  ·have e1:∀z:D,(r.act z).2 s=z.2 s:=λz=>hx z.2
   cases X k<;>cases Y k<;>simp[e1,h]
theorem nQ{X:Nat->Bool}(q:EB):∀(l:List EB)(k:Nat)(x:D),(∀i r,l[i]?=some r->X (k+i)=true->∀z,r.act (q.act z)=q.act (r.act z))->EJ X l k (q.act x)=q.act (EJ X l k x)
 |[],k,x,_=>rfl
 |r::rs,k,x,h=>by
  simp only[EJ];have fw:∀i r',rs[i]?=some r'->X (k+1+i)=true->∀z,r'.act (q.act z)=q.act (r'.act z):=λi r' hr hX=>h (i+1) r' (by simpa using hr) (by rw[show k+(i+1)=k+1+i by omega];exact hX)
  cases hk:X k
  ·simp only[Ga,if_false]
   exact nQ q rs (k+1) x fw
  ·simp only[if_true]
   rw[h 0 r rfl (by simpa using hk)];exact nQ q rs (k+1) _ fw
theorem gE{X Y:Nat->Bool}:∀(l:List EB)(k:Nat)(x:D),(∀i,i<l.length->X (k+i)=Y (k+i))->EJ X l k x=EJ Y l k x
 |[],_,_,_=>rfl
 |r::rs,k,x,h=>by
  simp only[EJ];rw[show X k=Y k by simpa using h 0 Z'];exact gE rs (k+1) _ λi hi=>by
   have:=h (i+1) (by simpa using hi)
   rw[show k+1+i=k+(i+1)by omega];exact this
theorem Tl{X X':Nat->Bool}{l:List EB}{i:Nat}{q:EB}(hq:l[i]?=some q)(np:X i=false)(xx:∀j,X' j=(decide (j=i)||X j))(x:D)(Ha:∀j r,l[j]?=some r->i<j->X j=true->∀z,r.act (q.act z)=q.act (r.act z)) :
  EJ X' l 0 x=q.act (EJ X l 0 x):=by
 have ic:i<l.length:=(zS hq).1;have hli:l=l.take i++(q::l.drop (i+1)):=by
  have:l.drop i=q::l.drop (i+1):=by
   rw[Md ic];congr 1;have:=(zS hq).2
   exact this
  rw[<-this,List.take_append_drop]
 have dp:(l.take i).length=i:=by simp;omega
 rw[hli,nP,nP,dp,Ca];simp only[EJ,np,Ga,if_false];rw[show X' i=true by rw[xx];simp];simp only[if_true];rw[gE (X:=X') (Y:=X) (l.take i) 0 x (λj hj=>by rw[xx];simp;omega)];rw[gE (X:=X') (Y:=X) (l.drop (i+1)) (i+1) _ (λj hj=>by rw[xx];simp;omega)];refine nQ q _ _ _ λj r hr Ni=>?_
 rw[Qa]at hr;exact Ha (i+1+j) r hr O' Ni
end
end Go.e9

namespace Go.e9
open Go.RowKit
section
variable {C:Cl} {b9:u_} {ρ:AL->AV}
theorem Ail{op:EF}(o o':Own)(ht:GV op=false)(hr:WQ op=true->o.u7 b9=o'.u7 b9)(o7:∀s,EY op=some s->o s=o' s):j4 C b9 ρ o op=j4 C b9 ρ o' op:=by
 cases op with
 |qt s n x v=>
  have h1:=o7 s rfl;have h2:∀t i j vs,(o.py s t i j vs).map (λq=>B9.u5 s (q s))=(o'.py s t i j vs).map (λq=>B9.u5 s (q s)):=λt i j vs=>by
   have hg:o.get s t=o'.get s t:=by unfold Own.get;rw[h1]
   unfold Own.py;rw[hg];cases o'.get s t with
   |none=>rfl
   |some b=>
    simp only;cases b.es[i]? with
    |none=>rfl
    |some cs=>
     simp only;split
     ·simp only[Ia,Own.n9,h1]
     ·rfl
  simp only[j4,h2]
 |dw s a7 bytes x y=>
  have h1:=o7 s rfl;have hg:∀t,o.get s t=o'.get s t:=λt=>by unfold Own.get;rw[h1]
  simp only[j4,hg,Own.j7,h1]
 |ld agg n x=>have:=hr rfl;simp only[j4,this]
 |call f xs=>have:=hr rfl;simp only[j4,this]
 |ru x k=>have:=hr rfl;simp only[j4,this]
 |qo=>simp[GV]at ht
 |oa=>simp[GV]at ht
 |fm=>simp[GV]at ht
 |qp=>simp[GV]at ht
 |y5 s f xs=>have:=hr rfl;simp only[j4,this]
 |dh s f xs=>have h1:=o7 s rfl;simp only[j4,h1]
 |st=>simp[GV]at ht
 |app=>simp[GV]at ht
 |j6=>simp[GV]at ht
 |v8=>simp[GV]at ht
 |_=>rfl
theorem xT{op:EF}{o:Own}{E:B9}(h:j4 C b9 ρ o op=some E){s:Nat}(hs:EY op=some s):(∃b v,E = .new s b v\/E = .Ae s b v)\/∃x v,E = .u5 s x\/E = .tn s x v:=by
 cases op with
 |dw s' a7 bytes x y=>
  simp only[EY,za]at hs;subst hs;simp only[j4]at h;split at h
  ·split at h
   ·split at h
    ·simp only[za]at h;exact .inr ⟨_,_,.inr h.symm⟩
    ·cases h
   ·cases h
  ·split at h
   ·simp only[za]at h;exact .inr ⟨_,_,.inr h.symm⟩
   ·cases h
  ·cases h
 |qt s' n x v=>
  simp only[EY,za]at hs;subst hs;simp only[j4]at h;split at h
  ·split at h
   ·simp only[sa]at h
    obtain⟨q,_,rfl⟩:=h;exact .inr ⟨_,.any,.inl rfl⟩
   ·cases h
  ·cases h
 |y5 s' f xs=>
  simp only[EY,za]at hs;subst hs;simp only[j4]at h;split at h
  ·simp only[sa]at h
   obtain⟨r,_,rfl⟩:=h;exact .inl ⟨_,_,.inl rfl⟩
  ·cases h
 |dh s' f xs=>
  simp only[EY,za]at hs;subst hs;simp only[j4,sa]at h;obtain⟨p,_,rfl⟩:=h;exact .inr ⟨_,_,.inr rfl⟩
 |ak s' z=>
  simp only[EY,za]at hs;subst hs;simp only[j4,za]at h;exact .inl ⟨_,_,.inr h.symm⟩
 |box s' x=>
  simp only[EY,za]at hs;subst hs;simp only[j4]at h;split at h
  ·simp only[za]at h;exact .inl ⟨_,_,.inl h.symm⟩
  ·cases h
 |alloc s' z=>
  simp only[EY,za]at hs;subst hs;simp only[j4,za]at h;exact .inl ⟨_,_,.inl h.symm⟩
 |b8 s' a7 ps=>
  simp only[EY,za]at hs;subst hs;simp only[j4]at h;split at h
  ·split at h
   ·simp only[za]at h;exact .inl ⟨_,_,.inl h.symm⟩
   ·cases h
  ·cases h
 |mk s' a7 bytes z l c=>
  simp only[EY,za]at hs;subst hs;simp only[j4]at h;split at h
  ·split at h
   ·simp only[za]at h;exact .inl ⟨_,_,.inl h.symm⟩
   ·cases h
  ·cases h
 |_=>simp[EY]at hs
theorem pE{α:Type}{x:Option α}{f:α->AV}{E:B9}(h:x.map (λy=>B9.val (f y))=some E):∃v,E = .val v:=by
 cases x with
 |none=>cases h
 |some y=>simp only[Ia,za]at h;exact⟨_,h.symm⟩
theorem xU{op:EF}{o:Own}{E:B9}(h:j4 C b9 ρ o op=some E)(ht:GV op=false)(hs:EY op=none):∃v,E = .val v:=by
 cases op<;>first|(simp[GV]at ht;done)|(simp[EY]at hs;done)|skip
 all_goals simp only[j4]at h
 all_goals
  first
   |(simp only[za]at h;exact⟨_,h.symm⟩)
   |exact pE (f:=id) h
   |skip
 all_goals (repeat' split at h)
 all_goals
  first
   |(cases h;done)
   |(simp only[za]at h;exact⟨_,h.symm⟩)
   |exact pE (f:=id) h
   |exact pE (f:=AV.agg) h
   |(simp only[sa]at h;obtain⟨cs,_,rfl⟩:=h;exact⟨_,rfl⟩)
theorem WP{x:AI}{r:EB}{s s':St}(h:QL C x r s s')(ht:GV x.op=false)(hs:EY x.op=none)(o:Own):r.own o=o:=by
 unfold EB.own;cases hg:r.g with
 |false=>rfl
 |true=>
  obtain⟨v,hv⟩:=xU (h.E hg) ht hs;simp[hv,B9.ax]
theorem iZ{x:AI}{r:EB}{s s':St}(h:QL C x r s s'){q:Nat}(hs:EY x.op=some q):(∀o,r.own o=o)\/∃F:B5->B5,∀o:Own,r.own o=o.put q (F (o q)):=by
 unfold EB.own;cases hg:r.g with
 |false=>exact .inl λ_=>rfl
 |true=>
  rcases xT (h.E hg) hs with⟨b,v,hv|hv⟩|⟨x,v,hv|hv⟩
  ·exact .inr ⟨λq=>q.new b,λo=>by simp[hv,B9.ax]⟩
  ·exact .inr ⟨λq=>q.new b,λo=>by simp[hv,B9.ax]⟩
  ·exact .inr ⟨λ_=>x,λo=>by simp[hv,B9.ax]⟩
  ·exact .inr ⟨λ_=>x,λo=>by simp[hv,B9.ax]⟩
theorem qV{x:AI}{r:EB}{s s':St}(h:QL C x r s s'){q:Nat}(hs:EY x.op=some q){p:Nat}(hp:p≠q)(o:Own):r.own o p=o p:=by
 rcases iZ h hs with h1|⟨b,h1⟩
 ·rw[h1]
 ·rw[h1];simp[Own.put,hp]
theorem Vq{x:AI}{s:Nat}(h:OT x=some s):∃f xs,x.op = .j6 f xs/\x.b9=[s]:=by
 unfold OT at h;split at h
 ·rename_i f xs s' h1 h2
  obtain rfl:=na h;exact⟨f,xs,h1,h2⟩
 ·cases h
theorem gT{x y:AI}(h:YK x y=true):∃s,OT x=some s/\EY y.op=some s/\GV y.op=false/\WQ y.op=false:=by
 unfold YK at h;split at h
 ·rename_i s hs
  simp only[ya,beq_iff_eq,Kb]at h;exact⟨s,hs,h.1,h.2.1,h.2.2⟩
 ·cases h
theorem Agw{f:Nat}{vs:w_}{s:Nat}{o o':Own}(h:∀q,q≠s->o q=o' q):OM C f vs s o=OM C f vs s o':=by
 have e:(λp:AV×Own=>∀u:Own,(∀q,q≠s->u q=o q)->C.gi f vs u=some (p.1,p.2.put s (u s)))=λp:AV×Own=>∀u:Own,(∀q,q≠s->u q=o' q)->C.gi f vs u=some (p.1,p.2.put s (u s)):=by
  funext p
  refine propext ⟨λg u hu=>g u λq hq=>by rw[hu q hq,h q hq],λg u hu=>g u λq hq=>by rw[hu q hq,h q hq]⟩
 cases h1:OM C f vs s o with
 |some p=>
  have h2:=dZ h1;exact(dY h2.1 λu hu=>h2.2 u λq hq=>by rw[hu q hq,h q hq]).symm
 |none=>
  cases h3:OM C f vs s o' with
  |none=>rfl
  |some p=>
   have h2:=dZ h3;rw[dY h2.1 λu hu=>h2.2 u λq hq=>by rw[hu q hq,h q hq]]at h1;cases h1
theorem xS{x:AI}{s:Nat}(hk:OT x=some s){o:Own}{E:B9}(h:j4 C x.b9 ρ o x.op=some E):∃v o',E = .Bp s v o':=by
 obtain⟨f,xs,h1,h2⟩:=Vq hk;rw[h1,h2]at h;simp only[j4,sa]at h;obtain⟨p,_,rfl⟩:=h;exact⟨_,_,rfl⟩
theorem Ys{x:AI}{r:EB}{s s':St}(h:QL C x r s s'){q:Nat}(hk:OT x=some q):(∀o,r.own o=o)\/∃o':Own,∀o:Own,r.own o=o'.put q (o q):=by
 unfold EB.own;cases hg:r.g with
 |false=>exact .inl λ_=>rfl
 |true=>
  obtain⟨v,o',hv⟩:=xS hk (h.E hg);exact .inr ⟨o',λo=>by simp[hv,B9.ax]⟩
theorem Yh(b:Array Nat)(i j:Nat):KF b i j=KF b j i:=by unfold KF;rw[Nat.max_comm,Nat.min_comm]
theorem VZ{ops:Array Oper}{l:List AI}(h:VY ops l=true){i j:Nat}{x y:AI}(hx:l[i]?=some x)(hy:l[j]?=some y)(q6:i≠j) :
  (KF (Region.before ops) i j=true\/((∀t,y.dst=some t->t ∉ YO x)/\(GV x.op=false\/MZ y.op=false\/YK x y=true)/\(WQ x.op=true->∀s,EY y.op=some s->s∈x.b9))) /\
  (KF (Region.before ops) i j=true\/∀s s',EY x.op=some s->EY y.op=some s'->s≠s'):=by
 simp only[VY,ya]at h;have h1:=h.1.1;rw[Nc]at h1;have Fa:(x,i)∈l.zipIdx:=xd.2 hx;have hym:(y,j)∈l.zipIdx:=xd.2 hy;have h2:=h1 (x,i) Fa;simp only at h2;rw[Nc]at h2;have h3:=h2 (y,j) hym;simp only[ya,Mb,beq_iff_eq,q6,false_or]at h3;obtain⟨h4,h5⟩:=h3;refine⟨?_,h5.imp id λh5 s s' hs va=>?_⟩
 ·unfold Yl at h4
  simp only[Mb,beq_iff_eq,q6,false_or]at h4;refine h4.imp id λh6=>?_
  simp only[ya,Mb,Kb]at h6;obtain⟨⟨h7,h8⟩,h9⟩:=h6;refine⟨λt ht=>?_,or_assoc.1 h8,λhr s hs=>?_⟩
  ·rw[ht]at h7
   simpa using h7
  ·rw[hr,hs]at h9
   simpa using h9
 ·rw[hs,va]at h5
  simpa using h5
structure dC(C:Cl)(ops:Array Oper)(l:List AI)(σ:Nat->St)(rs:List EB):Prop where
 ok:VY ops l=true
 len:rs.length=l.length
 fits:∀(k:Nat)(x:AI)(r:EB),l[k]?=some x->rs[k]?=some r->QL C x r (σ k) (σ (k+1))
variable {ops:Array Oper} {l:List AI} {σ:Nat->St} {rs:List EB}
theorem nR{X:Nat->Bool}:∀(l:List EB)(k:Nat)(x:D),(∀i,i<l.length->X (k+i)=false)->EJ X l k x=x
 |[],_,_,_=>rfl
 |r::q,k,x,h=>by
  simp only[EJ];rw[show X k=false by simpa using h 0 Z'];exact nR q (k+1) _ λi hi=>by
   have:=h (i+1) (by simpa using hi)
   rw[show k+1+i=k+(i+1)by omega];exact this
def d0(σ:Nat->St):D:=(j8 (σ 0).tm,(σ 0).own)
theorem mJ(h:dC C ops l σ rs):∀k,k<=l.length->EJ (λj=>decide (j<k)) rs 0 (d0 σ)=(j8 (σ k).tm,(σ k).own)
 |0,_=>nR rs 0 _ λi _=>Z'
 |k+1,hk=>by
  have ua:k<l.length:=O'
  have hkr:k<rs.length:=by rw[h.len];exact ua
  have hr:rs[k]?=some rs[k]:=zE hkr;have hf:=h.fits k l[k] rs[k] (zE ua) hr;rw[Tl (X:=λj=>decide (j<k)) (X':=λj=>decide (j<k+1)) hr Z' (λj=>by
   by_cases h1:j=k
   ·simp[h1]
   ·simp[h1];omega) _ (λj r' _ k7 hX=>by simp at hX;omega),mJ h k O']
  exact hf.act.symm
section
variable {X:Nat->Bool} {i:Nat} {x:AI} {r:EB}
theorem Yj(hX:XL ops X)(np:X i=false)(gf:∀o,ops[i]?=some o->∀e∈o.after,Region.binds .any e=true->X e.on=true){j:Nat}(q6:i≠j)(ho:KF (Region.before ops) i j=true):X j=decide (j<i):=by
 rcases me q6 with k7|nb
 ·have:X j=false:=by
   cases hj:X j with
   |false=>rfl
   |true=>have:=Yi hX hj k7 ho;rw[np]at this;cases this
  rw[this];simp;omega
 ·rw[Amh hX gf nb ho];simp;omega
theorem Ah9(h:dC C ops l σ rs)(hx:l[i]?=some x)(hr:rs[i]?=some r)(hX:XL ops X)(np:X i=false)(gf:∀o,ops[i]?=some o->∀e∈o.after,Region.binds .any e=true->X e.on=true) :
  N2 (EJ X rs 0 (d0 σ)).1 x.guard=some r.g/\(r.g=true->j4 C x.b9 (EI (EJ X rs 0 (d0 σ)).1) (EJ X rs 0 (d0 σ)).2 x.op=some r.E) /\
  (if r.g then r.E.valOf (EJ X rs 0 (d0 σ)).2 else .j5 [])=r.v /\
  ∀X':Nat->Bool,(∀j,X' j=(decide (j=i)||X j))->EJ X' rs 0 (d0 σ)=r.act (EJ X rs 0 (d0 σ)):=by
 have ic:i<l.length:=(zS hx).1;have hf:=h.fits i x r hx hr;have Bc:=mJ h i O';generalize hT:EJ X rs 0 (d0 σ)=TX;have gk:∀(j:Nat)(r':EB),rs[j]?=some r'->∃y,l[j]?=some y/\QL C y r' (σ j) (σ (j+1)):=λj r' hj=>by
  have fe:j<l.length:=by rw[<-h.len];exact(zS hj).1
  exact⟨l[j],zE fe,h.fits j _ _ (zE fe) hj⟩
 have Ba:∀t∈YO x,TX.1 t=j8 (σ i).tm t:=λt ht=>by
  have:=To (X:=X) (Y:=λj=>decide (j<i)) (t:=t) rs 0 (d0 σ) (d0 σ) rfl (λj r' hj hd=>by
   simp only[Ca];by_cases q6:i=j
   ·subst q6;simp[np]
   ·obtain⟨y,hy,gn⟩:=gk j r' hj
    rcases(VZ h.ok hx hy q6).1 with ho|⟨h1,_⟩
    ·exact Yj hX np gf q6 ho
    ·exact absurd ht (h1 t (by rw[<-gn.d];exact hd)))
  rw[hT,Bc]at this;exact this
 have Is:∀t∈HQ x.op,TX.1 t=j8 (σ i).tm t:=λt ht=>Ba t (by simp[YO,ht])
 have im:∀s,(∀(j:Nat)(y:AI)(r':EB),i≠j->l[j]?=some y->rs[j]?=some r'->KF (Region.before ops) i j=true\/∀o,r'.own o s=o s)->TX.2 s=(σ i).own s:=λs hs=>by
  have:=Tn (X:=X) (Y:=λj=>decide (j<i)) (s:=s) rs 0 (d0 σ) (d0 σ) rfl (λj r' hj=>by
   simp only[Ca];by_cases q6:i=j
   ·subst q6;left;simp[np]
   ·obtain⟨y,hy,gn⟩:=gk j r' hj
    rcases hs j y r' q6 hy hj with ho|ho
    ·exact .inl (Yj hX np gf q6 ho)
    ·exact .inr ho)
  rw[hT,Bc]at this;exact this
 have oy:∀(j:Nat)(y:AI)(r':EB),l[j]?=some y->rs[j]?=some r'->MZ y.op=false->∀o,r'.own o=o:=λj y r' hy hj hm o=>by
  simp only[MZ,Bool.or_eq_false_iff]at hm;exact WP (h.fits j y r' hy hj) hm.1.1 (by simpa using hm.2) o
 have Ih:∀(j:Nat)(y:AI),i≠j->l[j]?=some y->GV y.op=true->MZ x.op=true->KF (Region.before ops) i j=true\/YK y x=true:=λj y q6 hy ht lz=>by
  rcases(VZ h.ok hy hx (Ne.symm q6)).1 with ho|⟨_,h2,_⟩
  ·rw[Yh];exact .inl ho
  ·rw[ht,lz]at h2
   simp only[ue,false_or]at h2;exact .inr h2
 have hg:N2 TX.1 x.guard=some r.g:=by
  rw[<-hf.g];cases Ei:x.guard with
  |none=>rfl
  |some gw=>
   obtain⟨g,w⟩:=gw;simp only[N2];rw[Ba g (by simp[YO,Ei])]
 have Bd:GV x.op=true->∀s,OT x≠some s->TX.2 s=(σ i).own s:=λht s zh=>by
  refine im s λj y r' q6 hy hj=>?_
  cases hm:MZ y.op with
  |false=>exact .inr λo=>by rw[oy j y r' hy hj hm o]
  |true=>
   rcases(VZ h.ok hx hy q6).1 with ho|⟨_,h2,_⟩
   ·exact .inl ho
   ·rw[ht,hm]at h2
    simp only[ue,false_or]at h2;obtain⟨q,k1,k2,k3,_⟩:=gT h2;exact .inr λo=>qV (h.fits j y r' hy hj) k2 (p:=s) (λe=>zh (by rw[e];exact k1)) o
 have xf:GV x.op=true->OT x=none->TX.2=(σ i).own:=λht hn=>by
  funext s
  exact Bd ht s (by rw[hn];simp)
 have Ie:WQ x.op=true->TX.2.u7 x.b9=(σ i).own.u7 x.b9:=λko=>by
  refine Akz λs hs=>im s λj y r' q6 hy hj=>?_
  have lz:MZ x.op=true:=by simp[MZ,ko]
  cases ht:GV y.op with
  |true=>
   refine .inl ((Ih j y q6 hy ht lz).resolve_right λhk=>?_);obtain⟨_,_,_,_,k4⟩:=gT hk;rw[ko]at k4;cases k4
  |false=>
   cases nv:EY y.op with
   |none=>exact .inr λo=>by rw[WP (h.fits j y r' hy hj) ht nv o]
   |some q=>
    rcases(VZ h.ok hx hy q6).1 with ho|⟨_,_,h3⟩
    ·exact .inl ho
    ·exact .inr λo=>qV (h.fits j y r' hy hj) nv (p:=s) (λe=>hs (by rw[e];exact h3 ko q nv)) o
 have pg:∀s,EY x.op=some s->TX.2 s=(σ i).own s:=λs vb=>by
  have lz:MZ x.op=true:=by simp[MZ,vb]
  exact im s λj y r' q6 hy hj=>by
   cases ht:GV y.op with
   |true=>
    rcases Ih j y q6 hy ht lz with ho|hk
    ·exact .inl ho
    ·obtain⟨q,k1,k2,_,_⟩:=gT hk
     obtain rfl:q=s:=na (k2.symm.trans vb);rcases Ys (h.fits j y r' hy hj) k1 with g1|⟨o',g1⟩
     ·exact .inr λo=>by rw[g1]
     ·exact .inr λo=>by rw[g1];simp[Own.put]
   |false=>
    cases nv:EY y.op with
    |none=>exact .inr λo=>by rw[WP (h.fits j y r' hy hj) ht nv o]
    |some q=>
     rcases(VZ h.ok hx hy q6).2 with ho|ud
     ·exact .inl ho
     ·exact .inr λo=>qV (h.fits j y r' hy hj) nv (ud s q vb nv) o
 have Oh:r.g=true->j4 C x.b9 (EI TX.1) TX.2 x.op=some r.E:=λdi=>by
  rw[Aii Is,<-hf.E di];cases ht:GV x.op with
  |true=>
   cases hk:OT x with
   |none=>rw[xf ht hk]
   |some s=>
    obtain⟨f,xs,k1,k2⟩:=Vq hk;rw[k1,k2];simp only[j4];rw[Agw (o':=(σ i).own) λq hq=>Bd ht q (by rw[hk];exactλe=>hq (na e).symm)]
  |false=>exact Ail _ _ ht Ie pg
 have hval:(if r.g then r.E.valOf TX.2 else .j5 [])=r.v:=by
  rw[hf.v];cases Oq:r.g with
  |false=>rfl
  |true=>
   simp only[if_true];cases vb:EY x.op with
   |none=>
    cases ht:GV x.op with
    |true=>
     cases hk:OT x with
     |none=>rw[xf ht hk]
     |some s=>
      obtain⟨v,o',hv⟩:=xS hk (hf.E Oq);rw[hv];rfl
    |false=>
     obtain⟨v,hv⟩:=xU (hf.E Oq) ht vb;rw[hv];rfl
   |some s=>
    have ud:=pg s vb;rcases xT (hf.E Oq) vb with⟨b,v,hv|hv⟩|⟨x,v,hv|hv⟩<;>rw[hv]<;>simp only[B9.valOf,Own.j7,ud]
 refine⟨hg,Oh,hval,λX' xx=>?_⟩;rw[<-hT];refine Tl hr np xx _ λj r' hj k7 Ni z=>?_
 obtain⟨y,hy,gn⟩:=gk j r' hj;have q6:i≠j:=O'
 have jj:¬KF (Region.before ops) i j=true:=λho=>by
  have:=Yi hX Ni k7 ho
  rw[np]at this;cases this
 obtain⟨Pl,Pm⟩:=VZ h.ok hx hy q6;obtain⟨yc,Eu⟩:=VZ h.ok hy hx (Ne.symm q6);have hp:=Pl.resolve_left jj;have hq:=yc.resolve_left (by rw[Yh];exact jj);unfold EB.act;refine Prod.ext ?_ ?_
 ·funext t
  simp only[LM];by_cases h1:r'.d=some t<;>by_cases h2:r.d=some t
  ·exact absurd (by rw[hf.d]at h2;simp[YO,h2]) (hp.1 t (by rw[<-gn.d];exact h1))
  ·simp[h1,h2]
  ·simp[h1,h2]
  ·simp[h1,h2]
 ·show r'.own (r.own z.2)=r.own (r'.own z.2)
  cases lz:MZ x.op with
  |false=>rw[oy i x r hx hr lz,oy i x r hx hr lz]
  |true=>
   cases zj:MZ y.op with
   |false=>rw[oy j y r' hy hj zj,oy j y r' hy hj zj]
   |true=>
    have Hr:∀{x y:AI}{r r':EB}{s1 s2 s3 s4:St},QL C x r s1 s2->QL C y r' s3 s4->YK x y=true->∀o,r'.own (r.own o)=r.own (r'.own o):=λhf gn hk o=>by
     obtain⟨q,k1,k2,_,_⟩:=gT hk;rcases Ys hf k1 with g1|⟨o',g1⟩
     ·rw[g1,g1]
     ·rcases iZ gn k2 with g2|⟨F,g2⟩
      ·rw[g2,g2]
      ·rw[g1,g2,g2,g1]
       funext p
       simp only[Own.put];split<;>rfl
    rcases hp.2.1 with htx|h1|h1
    rotate_left
    ·rw[zj]at h1;cases h1
    ·exact Hr hf gn h1 _
    rcases hq.2.1 with hty|h1|h1
    rotate_left
    ·rw[lz]at h1;cases h1
    ·exact(Hr gn hf h1 _).symm
    cases vb:EY x.op with
    |none=>rw[WP hf htx vb,WP hf htx vb]
    |some s=>
     cases nv:EY y.op with
     |none=>rw[WP gn hty nv,WP gn hty nv]
     |some s'=>
      have ud:=(Pm.resolve_left jj) s s' vb nv;rcases iZ hf vb with h1|⟨b,h1⟩
      ·rw[h1,h1]
      ·rcases iZ gn nv with h2|⟨b',h2⟩
       ·rw[h2,h2]
       ·rw[h1,h2,h2,h1]
        funext q
        simp only[Own.put];by_cases Ic:q=s<;>by_cases Dg:q=s'
        ·exact absurd (Ic.symm.trans Dg) ud
        ·simp[Ic,ud]
        ·simp[Dg,Ne.symm ud]
        ·simp[Ic,Dg]
end
end
end Go.e9
