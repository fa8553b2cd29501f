/-
  How memory turns: each step of the abstract machine's memory, and that what is said stays said.
-/
import Derived.Test.YtmhfodhmngfoiaaGreatDoorB1
import Derived.Laws.StructEq
import Derived.ChangeKeysEq
import Derived.Laws.Slices
import Derived.Sort.Grow
import Derived.Sort.Statements
import Derived.StringKeys
import Derived.Orders
set_option linter.unusedSimpArgs false
set_option linter.unusedVariables false
set_option linter.unnecessarySimpa false
open Array renaming getElem?_eq_some_iff->sa,getElem?_toList->Cb,getElem?_modify->Bb,length_toList->dc,foldl_toList->Oc,toList_map->Lc,getD->xd,getElem?_append_left->Ld,getElem?_eq_getElem->Ed,size_append->Ge,range->Lf
open Bool renaming and_eq_true->ya,noConfusion->qa,false_eq_true->zb,or_eq_true->Gb,not_eq_true'->Eb,true_eq_false->He
open List renaming eq_nil_of_length_eq_zero->ea,getElem?_map->Oa,getElem?_take->La,getElem?_drop->Ja,getElem?_append_left->Fa,mem_append->Ca,getElem?_append_right->Ba,map_cons->rb,finRange->ib,mapM_cons->fb,length_take->Ob,getElem_mem->Nb,map_congr_left->Lb,length_map->Hb,mem_map->Fb,mem_flatMap->Ab,mem_of_mem_take->jc,pairwise_iff_getElem->Mc,length_cons->Jc,all_eq_true->Hc,getElem_of_mem->Dc,getElem?_range->Bc,mem_cons->Ac,append_assoc->ud,length_drop->gd,getElem!_eq_getElem?_getD->dd,mem_zipIdx_iff_getElem?->cd,foldl_cons->Od,range->Hd,drop_eq_getElem_cons->Cd,map_map->ze,getElem?_toArray->qe,mem_of_mem_drop->me,mem_cons_of_mem->ke,getElem?_of_mem->Oe,getElem?_append->Me,mem_cons_self->Le,length_append->Ie,size_toArray->xf,getD->sf,cons.injEq->qf,Nodup->Gf
open Nat renaming le_refl->Ma,add_mul->vb,zero_add->qb,succ_mul->kb,eq_zero_or_pos->eb,le_trans->Mb,lt_or_ge->Db,mul_comm->Pc,pos_of_ne_zero->Nc,div_lt_of_lt_mul->Fc,add_zero->kd,div_add_mod->Md,add_mul_mod_self_right->Dd,add_assoc->Bd,zero_mul->ve,add_comm->re,mod_lt->Fe,lt_or_gt_of_ne->Be,lt_trichotomy->vf,mod_eq_of_lt->rf,zero_le->Hf,blt_eq->Ff
open Option renaming some.injEq->za,map_eq_some_iff->ka,some.inj->ga,isSome_iff_exists->Da,map_some->Aa,bind_eq_bind->db,pure_def->xc,map_none->sc,getD_some->vd
open Prod renaming fst->Pf,mk.injEq->Nf
namespace Go.Eng
open Go.RowKit
section
variable {B:Nat} {S:Nat->Prop} {w0:F2}
def live(m:M)(s t:Nat):Prop := ∃b,m.own.get s t=some b
theorem BH.mc{m:M}(h:BH B S w0 m){s t:Nat}{b:C2}(hb:m.own.get s t=some b)(hs:s<D9):tK B S m s t b:=(h.c9 s t b hb).1 hs
theorem BH.ge{m:M}(h:BH B S w0 m){s t g:Nat}(hl:live m s t)(hg:m.ν s t=some g):B<=g/\∃x,m.w.heap[g]?=some x:=by
 obtain⟨b,hb⟩:=hl;rcases Db s D9 with hs|hs
 ·obtain⟨_,h2⟩:=h.mc hb hs
  rw[hg]at h2;obtain⟨h3,arr,e,h4,_⟩:=h2;exact⟨h3,_,h4⟩
 ·obtain⟨g',es,clock,h1,h2,h3,_⟩:=(h.c9 s t b hb).2 hs
  obtain rfl:g'=g:=ga (h1.symm.trans hg);exact⟨h2,_,h3⟩
theorem cS.ext{m m':M}{s t:Nat}{b:C2}(h:cS B S m s t b)(he:CU B S m m')(hν:m'.ν s t=m.ν s t)(hk:∀g x,m.ν s t=some g->m.w.heap[g]?=some x->m'.w.heap[g]?=some x):cS B S m' s t b:=by
 refine⟨λhs=>?_,λhs=>?_⟩
 ·obtain⟨h1,h2⟩:=h.1 hs
  refine⟨h1,?_⟩;rw[hν];cases hv:m.ν s t with
  |none=>rw[hv]at h2;exact h2
  |some g=>
   rw[hv]at h2;obtain⟨h3,ar,e',h4,h5⟩:=h2;refine⟨h3,ar,e',hk g _ hv h4,λi cs hi j c hj=>?_⟩;obtain⟨u,hu,bu⟩:=h5 i cs hi j c hj;exact⟨u,hu,he.cc bu⟩
 ·obtain⟨g,es,clock,h1,h2,h3,h4⟩:=h.2 hs
  exact⟨g,es,clock,hν.trans h1,h2,hk g _ h1 h3,h4⟩
theorem OL{m m':M}(hm:BH B S w0 m)(hs:m.w.heap.size<=m'.w.heap.size)
  (hk:∀b,b<m.w.heap.size->(∀s t,live m s t->m.ν s t≠some b)->m'.w.heap[b]?=m.w.heap[b]?) (Bn:∀s,m.own.j6 s<=m'.own.j6 s)
  (Gm:∀s t b',t<m.own.j6 s->m'.own.get s t=some b'->∃b,m.own.get s t=some b/\b'.a7=b.a7/\m'.ν s t=m.ν s t /\
   ∀g arr e,m.ν s t=some g->m.w.heap[g]?=some (.cells arr e (0,0))->∃y7,m'.w.heap[g]?=some (.cells y7 e (0,0))/\y7.size=arr.size)
  (dn:∀s t g,live m' s t->m'.ν s t=some g->g<m.w.heap.size->∃s0 t0,live m s0 t0/\m.ν s0 t0=some g):CU B S m m':=by
 have ep:∀b,safe B S m true b->∀s t,live m s t->m.ν s t≠some b:=by
  intro b hb s t hl hg;have ic:=(hm.ge hl hg).1;rcases hb with⟨_,h⟩|⟨_,h⟩|⟨_,h⟩
  ·omega
  ·obtain⟨b',j8⟩:=hl
   exact h s t (by simp[j8]) hg
  ·omega
 refine⟨hs,λb hb vm=>hk b hb (ep b vm),λl b hb vm=>?_,Bn,Gm⟩;rcases vm with h|⟨h,hn⟩|h
 ·exact .inl h
 ·refine .inr (.inl ⟨h,λs t hl hg=>?_⟩)
  obtain⟨b',j8⟩:=Da.1 hl;obtain⟨s0,t0,⟨b0,jd⟩,Bu⟩:=dn s t b ⟨b',j8⟩ hg hb;exact hn s0 t0 (by simp[jd]) Bu
 ·exact .inr (.inr h)
theorem grow{m:M}(hm:BH B S w0 m){w':World}(hb:DL w0.D m.w.heap.size m.w w') :
  BH B S w0 ⟨m.ν,m.own,w'⟩/\CU B S m ⟨m.ν,m.own,w'⟩:=by
 have he:CU B S m ⟨m.ν,m.own,w'⟩:=by
  refine OL hm hb.size (λb j8 _=>hb.block b j8) (λ_=>Ma _) (λs t b' _ j8=>⟨b',j8,rfl,rfl,λg arr e hg ha=>⟨arr,?_,rfl⟩⟩) (λs t g hl hg _=>⟨s,t,hl,hg⟩);have:g<m.w.heap.size:=(sa.1 ha).1
  exact(hb.block g this).trans ha
 refine⟨⟨hm.below.trans (hb.mono hm.size),Mb hm.size hb.size,hm.fresh,λs t b hg=>?_,hm.inj⟩,he⟩;exact(hm.c9 s t b hg).ext he rfl λg x _ hx=>(hb.block g (sa.1 hx).1).trans hx
theorem FV(o:Own)(s s' t':Nat)(b:C2):(o.put s ((o s).new b)).get s' t'=if s'=s/\t'=o.j6 s then some b else o.get s' t':=by
 unfold Own.get Own.put BZ.new Own.j6;by_cases h:s'=s
 ·subst h
  by_cases h2:t'=(o s').j6<;>simp[h2]
 ·simp[h]
theorem KP(o:Own)(s s':Nat)(b:C2):(o.put s ((o s).new b)).j6 s'=if s'=s then o.j6 s+1 else o.j6 s':=by
 unfold Own.j6 Own.put BZ.new;by_cases h:s'=s<;>simp[h]
theorem LU(o:Own)(s t s' t':Nat)(b:Option C2):(o.put s ((o s).q9 t b)).get s' t'=if s'=s/\t'=t then b else o.get s' t':=by
 unfold Own.get Own.put BZ.q9;by_cases h:s'=s
 ·subst h
  by_cases h2:t'=t<;>simp[h2]
 ·simp[h]
theorem XZ(o:Own)(s t s':Nat)(b:Option C2):(o.put s ((o s).q9 t b)).j6 s'=o.j6 s':=by
 unfold Own.j6 Own.put BZ.q9;by_cases h:s'=s<;>simp[h]
def j9(m:M)(s:Nat)(g:Option Nat):Nat->Nat->Option Nat:=λs' t'=>if s'=s/\t'=m.own.j6 s then g else m.ν s' t'
theorem bI{m:M}(hm:BH B S w0 m)(s:Nat):¬live m s (m.own.j6 s):=λ⟨b,hb⟩=>by
 rw[hm.fresh s _ (Ma _)]at hb;cases hb
theorem kY{m:M}(hm:BH B S w0 m)(s:Nat)(w7:s<D9)(b:C2)(arr:Array Value)(e:TypeId)(hz:∀x∈b.es,x.length=b.a7)
  (hc:∀i cs,b.es[i]?=some cs->∀j c,cs[j]?=some c->∃u,arr[i*b.a7+j]?=some u/\CC B S m c u) :
  BH B S w0 ⟨j9 m s (some m.w.heap.size),m.own.put s ((m.own s).new b),m.w.alloc (.cells arr e)⟩ /\
  CU B S m ⟨j9 m s (some m.w.heap.size),m.own.put s ((m.own s).new b),m.w.alloc (.cells arr e)⟩:=by
 have hsz:(m.w.alloc (.cells arr e)).heap.size=m.w.heap.size+1:=Z'
 have hν:∀s' t',live m s' t'->j9 m s (some m.w.heap.size) s' t'=m.ν s' t':=λs' t' hl=>by
  unfold j9;rw[if_neg];rintro⟨rfl,rfl⟩
  exact bI hm _ hl
 have he:CU B S m ⟨j9 m s (some m.w.heap.size),m.own.put s ((m.own s).new b),m.w.alloc (.cells arr e)⟩:=by
  refine OL hm (by rw[hsz];omega) (λk hk _=>Below.heap_alloc _ _ _ hk) (λs'=>?_) (λs' t' b' ht j8=>?_) (λs' t' g hl hg hlt=>?_)
  ·rw[KP];split
   ·rename_i h;subst h;omega
   ·exact Ma _
  ·rw[FV]at j8
   rw[if_neg (by rintro⟨rfl,rfl⟩;omega)]at j8;refine⟨b',j8,rfl,hν s' t' ⟨b',j8⟩,λg ar e' hg ha=>⟨ar,?_,rfl⟩⟩;exact(Below.heap_alloc _ _ _ (sa.1 ha).1).trans ha
  ·obtain⟨b',j8⟩:=hl
   have v8:=j8;rw[FV]at j8;by_cases h:s'=s/\t'=m.own.j6 s
   ·simp only[j9,if_pos h,za]at hg
    omega
   ·rw[if_neg h]at j8
    exact⟨s',t',⟨b',j8⟩,by rw[<-hν s' t' ⟨b',j8⟩];exact hg⟩
 refine⟨⟨hm.below.alloc hm.size _,by rw[hsz];have:=hm.size;omega,λs' t' ht=>?_,λs' t' b' j8=>?_,λs1 t1 s2 t2 b1 b2 g h1 h2 g1 g2=>?_⟩,he⟩
 ·rw[KP]at ht
  rw[FV,if_neg]
  ·refine hm.fresh s' t' ?_
   split at ht
   ·rename_i h;subst h;omega
   ·exact ht
  ·rintro⟨rfl,rfl⟩
   simp at ht;omega
 ·rw[FV]at j8
  by_cases h:s'=s/\t'=m.own.j6 s
  ·rw[if_pos h]at j8
   obtain rfl:b=b':=by simpa using j8
   refine⟨λ_=>⟨hz,?_⟩,λic=>by have:=h.1;omega⟩;show match j9 m s (some m.w.heap.size) s' t' with|none=>_|some g=>_
   rw[show j9 m s (some m.w.heap.size) s' t'=some m.w.heap.size by simp[j9,h]];refine⟨hm.size,arr,e,heap_alloc_new _ _,λi cs hi j c hj=>?_⟩;obtain⟨u,hu,bu⟩:=hc i cs hi j c hj;exact⟨u,hu,he.cc bu⟩
  ·rw[if_neg h]at j8
   exact(hm.c9 s' t' b' j8).ext he (hν s' t' ⟨b',j8⟩) λg x _ hx=>(Below.heap_alloc _ _ _ (sa.1 hx).1).trans hx
 ·rw[FV]at h1 h2
  have lt:∀s' t' b',m.own.get s' t'=some b'->j9 m s (some m.w.heap.size) s' t'=some g->g<m.w.heap.size:=λs' t' b' hb hg=>by
   rw[hν s' t' ⟨b',hb⟩]at hg;obtain⟨_,x,h4⟩:=hm.ge ⟨b',hb⟩ hg;exact(sa.1 h4).1
  have at_:∀s' t',s'=s/\t'=m.own.j6 s->j9 m s (some m.w.heap.size) s' t'=some g->g=m.w.heap.size:=λs' t' h hg=>by
   simp only[j9,if_pos h,za]at hg;exact hg.symm
  by_cases p1:s1=s/\t1=m.own.j6 s<;>by_cases p2:s2=s/\t2=m.own.j6 s
  ·exact⟨p1.1.trans p2.1.symm,p1.2.trans p2.2.symm⟩
  ·rw[if_neg p2]at h2
   have:=lt s2 t2 b2 h2 g2
   have:=at_ s1 t1 p1 g1
   omega
  ·rw[if_neg p1]at h1
   have:=lt s1 t1 b1 h1 g1
   have:=at_ s2 t2 p2 g2
   omega
  ·rw[if_neg p1]at h1
   rw[if_neg p2]at h2;exact hm.inj s1 t1 s2 t2 b1 b2 g h1 h2 (by rw[<-hν s1 t1 ⟨b1,h1⟩];exact g1) (by rw[<-hν s2 t2 ⟨b2,h2⟩];exact g2)
theorem Yn{m:M}(hm:BH B S w0 m)(s a7:Nat)(w7:s<D9) :
  BH B S w0 ⟨j9 m s none,m.own.put s ((m.own s).new ⟨a7,[]⟩),m.w⟩/\CU B S m ⟨j9 m s none,m.own.put s ((m.own s).new ⟨a7,[]⟩),m.w⟩:=by
 have hν:∀s' t',live m s' t'->j9 m s none s' t'=m.ν s' t':=λs' t' hl=>by
  unfold j9;rw[if_neg];rintro⟨rfl,rfl⟩
  exact bI hm _ hl
 have he:CU B S m ⟨j9 m s none,m.own.put s ((m.own s).new ⟨a7,[]⟩),m.w⟩:=by
  refine OL hm (Ma _) (λk hk _=>rfl) (λs'=>?_) (λs' t' b' ht j8=>?_) (λs' t' g hl hg hlt=>?_)
  ·rw[KP];split
   ·rename_i h;subst h;omega
   ·exact Ma _
  ·rw[FV]at j8
   rw[if_neg (by rintro⟨rfl,rfl⟩;omega)]at j8;exact⟨b',j8,rfl,hν s' t' ⟨b',j8⟩,λg ar e' hg ha=>⟨ar,ha,rfl⟩⟩
  ·obtain⟨b',j8⟩:=hl
   rw[FV]at j8;by_cases h:s'=s/\t'=m.own.j6 s
   ·simp[j9,if_pos h]at hg
   ·rw[if_neg h]at j8
    exact⟨s',t',⟨b',j8⟩,by rw[<-hν s' t' ⟨b',j8⟩];exact hg⟩
 refine⟨⟨hm.below,hm.size,λs' t' ht=>?_,λs' t' b' j8=>?_,λs1 t1 s2 t2 b1 b2 g h1 h2 g1 g2=>?_⟩,he⟩
 ·rw[KP]at ht
  rw[FV,if_neg]
  ·refine hm.fresh s' t' ?_
   split at ht
   ·rename_i h;subst h;omega
   ·exact ht
  ·rintro⟨rfl,rfl⟩
   simp at ht;omega
 ·rw[FV]at j8
  by_cases h:s'=s/\t'=m.own.j6 s
  ·rw[if_pos h]at j8
   obtain rfl:(⟨a7,[]⟩:C2)=b':=by simpa using j8
   refine⟨λ_=>⟨Z',?_⟩,λic=>by have:=h.1;omega⟩;show match j9 m s none s' t' with|none=>_|some g=>_
   rw[show j9 m s none s' t'=none by simp[j9,h]]
  ·rw[if_neg h]at j8
   exact(hm.c9 s' t' b' j8).ext he (hν s' t' ⟨b',j8⟩) λg x _ hx=>hx
 ·rw[FV]at h1 h2
  by_cases p1:s1=s/\t1=m.own.j6 s
  ·simp[j9,if_pos p1]at g1
  ·by_cases p2:s2=s/\t2=m.own.j6 s
   ·simp[j9,if_pos p2]at g2
   ·rw[if_neg p1]at h1
    rw[if_neg p2]at h2;exact hm.inj s1 t1 s2 t2 b1 b2 g h1 h2 (by rw[<-hν s1 t1 ⟨b1,h1⟩];exact g1) (by rw[<-hν s2 t2 ⟨b2,h2⟩];exact g2)
theorem Yj{m:M}(hm:BH B S w0 m)(s t:Nat)(w7:s<D9)(b b':C2)(hb:m.own.get s t=some b)(g:Nat)(hg:m.ν s t=some g)(arr y7:Array Value)(e:TypeId)
  (ha:m.w.heap[g]?=some (.cells arr e (0,0))) (Pa:b'.a7=b.a7) (hz:∀x∈b'.es,x.length=b'.a7) (hsz:y7.size=arr.size)
  (hc:∀i cs,b'.es[i]?=some cs->∀j c,cs[j]?=some c->∃u,y7[i*b'.a7+j]?=some u/\CC B S m c u) (w':World) (fk:DL w0.D B w0.w w') (od:w'.heap.size=m.w.heap.size)
  (hk:∀k,k≠g->w'.heap[k]?=m.w.heap[k]?) (Jf:w'.heap[g]?=some (.cells y7 e (0,0))) :
  BH B S w0 ⟨m.ν,m.own.put s ((m.own s).q9 t (some b')),w'⟩/\CU B S m ⟨m.ν,m.own.put s ((m.own s).q9 t (some b')),w'⟩:=by
 have hlt:t<m.own.j6 s:=by
  rcases Db t (m.own.j6 s)with h|h
  ·exact h
  ·rw[hm.fresh s t h]at hb;cases hb
 have he:CU B S m ⟨m.ν,m.own.put s ((m.own s).q9 t (some b')),w'⟩:=by
  refine OL hm (by rw[od];exact Ma _) (λk jg hn=>hk k (λe=>hn s t ⟨b,hb⟩ (e▸hg))) (λs'=>by rw[XZ];exact Ma _) (λs' t' b2 ht v8=>?_) (λs' t' g' hl da _=>?_)
  ·rw[LU]at v8
   by_cases h:s'=s/\t'=t
   ·obtain⟨rfl,rfl⟩:=h
    rw[if_pos ⟨rfl,rfl⟩]at v8;obtain rfl:b'=b2:=by simpa using v8
    refine⟨b,hb,Pa,rfl,λg2 ar e' je qu=>?_⟩;obtain rfl:g=g2:=by rw[hg]at je;simpa using je
    rw[ha]at qu;obtain⟨rfl,rfl⟩:arr=ar/\e=e':=by simpa using qu
    exact⟨y7,Jf,hsz⟩
   ·rw[if_neg h]at v8
    refine⟨b2,v8,rfl,rfl,λg2 ar e' je qu=>⟨ar,?_,rfl⟩⟩;rw[<-qu];exact hk g2 (λe2=>h (by
     subst e2;exact hm.inj s' t' s t b2 b g2 v8 hb je hg))
  ·obtain⟨b2,v8⟩:=hl
   rw[LU]at v8;by_cases h:s'=s/\t'=t
   ·obtain⟨rfl,rfl⟩:=h
    exact⟨s',t',⟨b,hb⟩,da⟩
   ·rw[if_neg h]at v8
    exact⟨s',t',⟨b2,v8⟩,da⟩
 refine⟨⟨fk,by rw[od];exact hm.size,λs' t' ht=>?_,λs' t' b2 v8=>?_,λs1 t1 s2 t2 b1 b2 g1 h1 h2 e1 e2=>?_⟩,he⟩
 ·rw[XZ]at ht
  rw[LU,if_neg (by rintro⟨rfl,rfl⟩;omega)];exact hm.fresh s' t' ht
 ·rw[LU]at v8
  by_cases h:s'=s/\t'=t
  ·obtain⟨rfl,rfl⟩:=h
   rw[if_pos ⟨rfl,rfl⟩]at v8;obtain rfl:b'=b2:=by simpa using v8
   refine⟨λ_=>⟨hz,?_⟩,λic=>O'⟩;show match m.ν s' t' with|none=>_|some g=>_
   rw[hg];refine⟨(hm.ge ⟨b,hb⟩ hg).1,y7,e,Jf,λi cs hi j c hj=>?_⟩;obtain⟨u,hu,bu⟩:=hc i cs hi j c hj;exact⟨u,hu,he.cc bu⟩
  ·rw[if_neg h]at v8
   exact(hm.c9 s' t' b2 v8).ext he rfl λg2 x hv hx=>(hk g2 (λe2=>h (by
    subst e2;exact hm.inj s' t' s t b2 b g2 v8 hb hv hg))).trans hx
 ·have old:∀s' t' b2,(m.own.put s ((m.own s).q9 t (some b'))).get s' t'=some b2->∃b3,m.own.get s' t'=some b3:=λs' t' b2 h=>by
   rw[LU]at h;by_cases h':s'=s/\t'=t
   ·obtain⟨rfl,rfl⟩:=h';exact⟨b,hb⟩
   ·rw[if_neg h']at h;exact⟨b2,h⟩
  obtain⟨c1,k1⟩:=old s1 t1 b1 h1;obtain⟨c2,k2⟩:=old s2 t2 b2 h2;exact hm.inj s1 t1 s2 t2 c1 c2 g1 k1 k2 e1 e2
theorem SH(o:Own)(s t s' t':Nat)(b:C2):(o.put s (((o s).q9 t none).new b)).get s' t'=if s'=s/\t'=o.j6 s then some b else if s'=s/\t'=t then none else o.get s' t':=by
 unfold Own.get Own.put BZ.new BZ.q9 Own.j6;by_cases h:s'=s
 ·subst h
  by_cases h2:t'=(o s').j6<;>by_cases h3:t'=t<;>simp[h2,h3]
 ·simp[h]
theorem eH(o:Own)(s t s':Nat)(b:C2):(o.put s (((o s).q9 t none).new b)).j6 s'=if s'=s then o.j6 s+1 else o.j6 s':=by
 unfold Own.j6 Own.put BZ.new BZ.q9;by_cases h:s'=s<;>simp[h]
theorem pM{m:M}(hm:BH B S w0 m)(s t:Nat)(w7:s<D9)(b b':C2)(hb:m.own.get s t=some b)(gk:Option Nat)(w':World)(fk:DL w0.D B w0.w w')(hsz:m.w.heap.size<=w'.heap.size)
  (hk:∀k,k<m.w.heap.size->m.ν s t≠some k->w'.heap[k]?=m.w.heap[k]?) (hz:∀x∈b'.es,x.length=b'.a7)
  (vj:gk=none->b'.es=[])
  (vo:∀g,gk=some g->B<=g/\(m.w.heap.size<=g\/m.ν s t=some g)/\∃arr e,w'.heap[g]?=some (.cells arr e (0,0)) /\
   ∀i cs,b'.es[i]?=some cs->∀j c,cs[j]?=some c->∃u,arr[i*b'.a7+j]?=some u/\CC B S m c u) :
  BH B S w0 ⟨j9 m s gk,m.own.put s (((m.own s).q9 t none).new b'),w'⟩/\CU B S m ⟨j9 m s gk,m.own.put s (((m.own s).q9 t none).new b'),w'⟩:=by
 have hlt:t<m.own.j6 s:=by
  rcases Db t (m.own.j6 s)with h|h
  ·exact h
  ·rw[hm.fresh s t h]at hb;cases hb
 have hν:∀s' t',live m s' t'->j9 m s gk s' t'=m.ν s' t':=λs' t' hl=>by
  unfold j9;rw[if_neg];rintro⟨rfl,rfl⟩
  exact bI hm _ hl
 have he:CU B S m ⟨j9 m s gk,m.own.put s (((m.own s).q9 t none).new b'),w'⟩:=by
  refine OL hm hsz (λk jg hn=>hk k jg (hn s t ⟨b,hb⟩)) (λs'=>?_) (λs' t' b2 ht v8=>?_) (λs' t' g' hl da nz=>?_)
  ·rw[eH];split
   ·rename_i h;subst h;omega
   ·exact Ma _
  ·rw[SH]at v8
   rw[if_neg (by rintro⟨rfl,rfl⟩;omega)]at v8;by_cases h:s'=s/\t'=t
   ·rw[if_pos h]at v8;cases v8
   ·rw[if_neg h]at v8
    refine⟨b2,v8,rfl,hν s' t' ⟨b2,v8⟩,λg2 ar e' je qu=>⟨ar,?_,rfl⟩⟩;rw[<-qu];exact hk g2 (sa.1 qu).1 (λe2=>h (hm.inj s' t' s t b2 b g2 v8 hb je e2))
  ·obtain⟨b2,v8⟩:=hl
   rw[SH]at v8;by_cases h0:s'=s/\t'=m.own.j6 s
   ·simp only[j9,if_pos h0]at da
    obtain⟨_,h2,_⟩:=vo g' da;rcases h2 with h2|h2
    ·omega
    ·exact⟨s,t,⟨b,hb⟩,h2⟩
   ·rw[if_neg h0]at v8
    by_cases h:s'=s/\t'=t
    ·rw[if_pos h]at v8;cases v8
    ·rw[if_neg h]at v8
     exact⟨s',t',⟨b2,v8⟩,by rw[<-hν s' t' ⟨b2,v8⟩];exact da⟩
 refine⟨⟨fk,Mb hm.size hsz,λs' t' ht=>?_,λs' t' b2 v8=>?_,λs1 t1 s2 t2 b1 b2 g1 h1 h2 e1 e2=>?_⟩,he⟩
 ·rw[eH]at ht
  have nb:m.own.j6 s'<=t'/\¬(s'=s/\t'=m.own.j6 s):=by
   by_cases h:s'=s
   ·subst h
    simp at ht;exact⟨O',O'⟩
   ·simp[h]at ht
    exact⟨ht,λh'=>h h'.1⟩
  rw[SH,if_neg nb.2];split
  ·rfl
  ·exact hm.fresh s' t' nb.1
 ·rw[SH]at v8
  by_cases h0:s'=s/\t'=m.own.j6 s
  ·rw[if_pos h0]at v8
   obtain rfl:b'=b2:=by simpa using v8
   refine⟨λ_=>⟨hz,?_⟩,λic=>by have:=h0.1;omega⟩;show match j9 m s gk s' t' with|none=>_|some g=>_
   rw[show j9 m s gk s' t'=gk by simp[j9,h0]];cases gk with
   |none=>exact vj rfl
   |some g=>
    obtain⟨h1,_,arr,e,h4,h5⟩:=vo g rfl;refine⟨h1,arr,e,h4,λi cs hi j c hj=>?_⟩;obtain⟨u,hu,bu⟩:=h5 i cs hi j c hj;exact⟨u,hu,he.cc bu⟩
  ·rw[if_neg h0]at v8
   by_cases h:s'=s/\t'=t
   ·rw[if_pos h]at v8;cases v8
   ·rw[if_neg h]at v8
    exact(hm.c9 s' t' b2 v8).ext he (hν s' t' ⟨b2,v8⟩) λg2 x hv hx=>(hk g2 (sa.1 hx).1 (λe2=>h (hm.inj s' t' s t b2 b g2 v8 hb hv e2))).trans hx
 ·rw[SH]at h1 h2
  have old:∀s' t' b2,(if s'=s/\t'=t then none else m.own.get s' t')=some b2->m.own.get s' t'=some b2/\¬(s'=s/\t'=t):=λs' t' b2 h=>by
   by_cases h':s'=s/\t'=t
   ·rw[if_pos h']at h;cases h
   ·rw[if_neg h']at h;exact⟨h,h'⟩
  have ng:∀s' t' b2,m.own.get s' t'=some b2->¬(s'=s/\t'=t)->j9 m s gk s' t'=some g1->gk=some g1->False:=λs' t' b2 v8 o7 e1 e2=>by
   rw[hν s' t' ⟨b2,v8⟩]at e1;obtain⟨_,h2,_⟩:=vo g1 e2;obtain⟨_,x,h4⟩:=hm.ge ⟨b2,v8⟩ e1;have:=(sa.1 h4).1
   rcases h2 with h2|h2
   ·omega
   ·exact o7 (hm.inj s' t' s t b2 b g1 v8 hb e1 h2)
  have at_:∀s' t',s'=s/\t'=m.own.j6 s->j9 m s gk s' t'=some g1->gk=some g1:=λs' t' h hg=>by simpa [j9,if_pos h]using hg
  by_cases p1:s1=s/\t1=m.own.j6 s<;>by_cases p2:s2=s/\t2=m.own.j6 s
  ·exact⟨p1.1.trans p2.1.symm,p1.2.trans p2.2.symm⟩
  ·rw[if_neg p2]at h2
   obtain⟨k2,n2⟩:=old s2 t2 b2 h2;exact(ng s2 t2 b2 k2 n2 e2 (at_ s1 t1 p1 e1)).elim
  ·rw[if_neg p1]at h1
   obtain⟨k1,n1⟩:=old s1 t1 b1 h1;exact(ng s1 t1 b1 k1 n1 e1 (at_ s2 t2 p2 e2)).elim
  ·rw[if_neg p1]at h1
   rw[if_neg p2]at h2;obtain⟨k1,n1⟩:=old s1 t1 b1 h1;obtain⟨k2,n2⟩:=old s2 t2 b2 h2;exact hm.inj s1 t1 s2 t2 b1 b2 g1 k1 k2 (by rw[<-hν s1 t1 ⟨b1,k1⟩];exact e1) (by rw[<-hν s2 t2 ⟨b2,k2⟩];exact e2)
theorem Qf(o:Own)(l:u_)(s t:Nat):(o.drop l).get s t=if s∈l then none else o.get s t:=by
 induction l with
 |nil=>simp[Own.drop]
 |cons x r ih=>
  unfold Own.get at*;by_cases h:s=x
  ·subst h;simp[Own.drop,Own.put]
  ·simp only[Own.drop,Own.put,if_neg h,Ac]
   rw[ih];by_cases h2:s∈r<;>simp[h,h2]
theorem vU(o:Own)(l:u_)(s:Nat):(o.drop l).j6 s=o.j6 s:=by
 induction l with
 |nil=>simp[Own.drop]
 |cons x r ih=>
  unfold Own.j6 at*;by_cases h:s=x
  ·subst h;simp[Own.drop,Own.put]
  ·simp[Own.drop,Own.put,h,ih]
theorem Ah9{m:M}(hm:BH B S w0 m)(l:u_):BH B S w0 ⟨m.ν,m.own.drop l,m.w⟩/\CU B S m ⟨m.ν,m.own.drop l,m.w⟩:=by
 have old:∀s t b,(m.own.drop l).get s t=some b->m.own.get s t=some b:=λs t b h=>by
  rw[Qf]at h;split at h
  ·cases h
  ·exact h
 have he:CU B S m ⟨m.ν,m.own.drop l,m.w⟩:=by
  refine OL hm (Ma _) (λ_ _ _=>rfl) (λs=>by rw[vU];exact Ma _) (λs t b' _ j8=>⟨b',old s t b' j8,rfl,rfl,λ_ ar _ _ ha=>⟨ar,ha,rfl⟩⟩) (λs t g hl hg _=>?_);obtain⟨b,hb⟩:=hl;exact⟨s,t,⟨b,old s t b hb⟩,hg⟩
 refine⟨⟨hm.below,hm.size,λs t ht=>?_,λs t b hb=>?_,λs1 t1 s2 t2 b1 b2 g h1 h2=>hm.inj s1 t1 s2 t2 b1 b2 g (old _ _ _ h1) (old _ _ _ h2)⟩,he⟩
 ·rw[vU]at ht
  rw[Qf];split
  ·rfl
  ·exact hm.fresh s t ht
 ·exact(hm.c9 s t b (old s t b hb)).ext he rfl λg x _ hx=>hx
end
end Go.Eng
namespace Go.Eng
section
variable {P:Program} {num:Nat->Nat} {op:Op}
theorem AkX{y:AL}(h:A6 P num op (.o9 y)=true):∃x,(op = .move x\/op = .assign x)/\BT x y=true:=by
 cases op with
 |move x=>exact⟨x,.inl rfl,h⟩
 |assign x=>exact⟨x,.inr rfl,h⟩
 |_=>exact qa h
theorem Ak4{s z:Nat}(h:A6 P num op (.z8 s z)=true):(op = .move (.const (.slice none 0 0))\/op = .assign (.const (.slice none 0 0)))/\z≠0:=by
 simp only[A6,ya,bne_iff_ne]at h;refine⟨?_,h.1⟩;have h2:=h.2;split at h2<;>simp_all
theorem AkZ{c' a' b':AL}(h:A6 P num op (.pick c' a' b')=true):∃c a b,op = .pick c a b/\BT c c'=true/\BT a a'=true/\BT b b'=true:=by
 cases op with
 |pick c a b=>simp only[A6,ya]at h;exact⟨c,a,b,rfl,h.1.1,h.1.2,h.2⟩
 |_=>exact qa h
theorem AkI{f:BinOp}{x' y':AL}(h:A6 P num op (.bin f x' y')=true):∃t x y u,op = .binOp f t x y u/\BT x x'=true/\BT y y'=true:=by
 cases op with
 |binOp f' t x y u=>
  simp only[A6,ya,beq_iff_eq]at h;exact⟨t,x,y,u,by rw[h.1.1],h.1.2,h.2⟩
 |_=>exact qa h
theorem AkH{ne:Bool}{x' y':AL}(h:A6 P num op (.beq ne x' y')=true):∃t x y u,op = .binOp (if ne then .neq else .eql) t x y u/\P.underlying t=some .bool/\BT x x'=true/\BT y y'=true:=by
 cases op with
 |binOp f' t x y u=>
  simp only[A6,ya]at h;obtain⟨⟨⟨h1,h2⟩,h3⟩,h4⟩:=h;refine⟨t,x,y,u,?_,?_,h3,h4⟩
  ·cases ne<;>simp_all
  ·split at h2<;>simp_all
 |_=>exact qa h
theorem Ak3{f:UnOp}{x':AL}(h:A6 P num op (.un f x')=true):∃t x,op = .unOp f t x/\BT x x'=true:=by
 cases op with
 |unOp f' t x=>
  simp only[A6,ya,beq_iff_eq]at h;exact⟨t,x,by rw[h.1],h.2⟩
 |_=>exact qa h
theorem AkQ{k:IntKind}{x':AL}(h:A6 P num op (.conv k x')=true):∃s d x ds,op = .convert s d x/\P.underlying s=some ds/\P.underlying d=some (.int k)/\BT x x'=true:=by
 cases op with
 |convert s d x=>
  simp only[A6,ya]at h;obtain⟨⟨h1,h2⟩,h3⟩:=h;obtain⟨ds,tn⟩:=Da.1 h1;refine⟨s,d,x,ds,rfl,tn,?_,h3⟩;split at h2<;>simp_all
 |_=>exact qa h
theorem AkJ{s:Nat}{x':AL}(h:A6 P num op (.box s x')=true):∃t x,op = .box t x/\BT x x'=true:=by
 cases op with
 |box t x=>exact⟨t,x,rfl,h⟩
 |_=>exact qa h
theorem AkG{s:Nat}{z:w_}(h:A6 P num op (.alloc s z)=true):∃t,op = .alloc t/\XB P t z=true:=by
 cases op with
 |alloc t=>exact⟨t,rfl,h⟩
 |_=>exact qa h
theorem AkL{z:w_}{cp:List (Nat×Nat×AL)}(h:A6 P num op (.build z cp)=true):∃t ps,op = .build t ps/\XB P t z=true/\lG P t ps.toList cp=true:=by
 cases op with
 |build t ps=>simp only[A6,ya]at h;exact⟨t,ps,rfl,h.1,h.2⟩
 |_=>exact qa h
theorem WX{t:TypeId}{f:TypeId->Bool}(h:KF P t f=true):∃e,P.underlying t=some (.slice e)/\f e=true:=by
 unfold KF at h;split at h
 ·rename_i e he;exact⟨e,he,h⟩
 ·cases h
theorem P9{t:TypeId}{n:Nat}(h:KE P t n=true):∃i,P.info? t=some i/\i.size=n:=by
 unfold KE at h;split at h
 ·rename_i i hi;exact⟨i,hi,by simpa using h⟩
 ·cases h
theorem vA{t:TypeId}{n:Nat}(h:XQ P t n=true):∃i,P.info? t=some i/\i.bytes=n:=by
 unfold XQ at h;split at h
 ·rename_i i hi;exact⟨i,hi,by simpa using h⟩
 ·cases h
theorem tB{t:TypeId}{l:w_}(h:XB P t l=true):∃i z,P.info? t=some i/\i.zero=some z/\QU z.cells.toList l=true:=by
 unfold XB at h;split at h
 ·rename_i i hi
  split at h
  ·rename_i z hz;exact⟨i,z,hi,hz,h⟩
  ·cases h
 ·cases h
theorem kW{t:TypeId}{b:Bool}(h:(XN P t == some b)=true):∀w,(isAgg t).run P w = .ok b w:=by
 intro w;have h':XN P t=some b:=by simpa using h
 unfold XN at h';unfold isAgg;cases hu:P.underlying t with
 |none=>rw[hu]at h';cases h'
 |some d=>
  rw[hu]at h';rw[Sem.run_bind,run_underlying hu];cases d<;>simp_all<;>rfl
theorem Zs{e:TypeId}{n:Nat}(h:(match P.info? e with|some i=>(match i.zero with|some z=>z.cells.size == n|none=>false)|none=>false)=true):∃i z,P.info? e=some i/\i.zero=some z/\z.cells.size=n:=by
 split at h
 ·rename_i i hi
  split at h
  ·rename_i z hz;exact⟨i,z,hi,hz,by simpa using h⟩
  ·cases h
 ·cases h
theorem AkK{s a7:Nat}{cp:List AL}(h:A6 P num op (.b8 s a7 cp)=true):∃t n ps e i,op = .buildSlice t n ps/\P.underlying t=some (.slice e)/\P.info? e=some i/\i.size=a7/\a7≠0/\n=cp.length/\n*a7<=16777216/\VY 0 ps.toList cp=true/\(n=0\/∃z,i.zero=some z/\z.cells.size=a7):=by
 cases op with
 |buildSlice t n ps=>
  simp only[A6,ya,decide_eq_true_eq,bne_iff_ne,beq_iff_eq,Gb]at h;obtain⟨⟨⟨⟨⟨h1,h2⟩,h3⟩,h4⟩,h5⟩,h6⟩:=h;obtain⟨e,he,h1⟩:=WX h1;obtain⟨i,hi,hs⟩:=P9 h1;refine⟨t,n,ps,e,i,rfl,he,hi,hs,h2,h3,h4,h5,h6.imp id λh6=>?_⟩;obtain⟨e',im,h6⟩:=WX h6;rw[he]at im;obtain rfl:e=e':=by simpa using im
  obtain⟨i',z,w6,hz,ua⟩:=Zs h6;rw[hi]at w6;obtain rfl:i=i':=by simpa using w6
  exact⟨z,hz,ua⟩
 |_=>exact qa h
theorem Tu{x':AL}{off:Nat}(h:A6 P num op (.l8 x' off)=true):∃t x f fs fd i,op = .fieldAddr t x f/\BT x x'=true/\P.underlying t=some (.struct fs)/\fs[f]?=some fd/\fd.offset=off/\P.info? fd.type=some i/\i.size≠0:=by
 cases op with
 |fieldAddr t x f=>
  simp only[A6,ya]at h;obtain⟨h1,h2⟩:=h;split at h2
  ·rename_i fs uw
   split at h2
   ·rename_i fd Jd
    simp only[ya,beq_iff_eq]at h2;obtain⟨h3,h4⟩:=h2;split at h4
    ·rename_i i hi
     exact⟨t,x,f,fs,fd,i,rfl,h1,uw,Jd,h3,hi,by simpa using h4⟩
    ·cases h4
   ·cases h2
  ·cases h2
 |_=>exact qa h
theorem AkS{x':AL}{off n:Nat}{agg:Bool}(h:A6 P num op (.nj x' off n agg)=true):∃t x f fs fd i,op = .field t x f/\BT x x'=true/\P.underlying t=some (.struct fs)/\fs[f]?=some fd/\fd.offset=off/\P.info? fd.type=some i/\i.size=n/\(∀w,(isAgg fd.type).run P w = .ok agg w)/\n≠0:=by
 cases op with
 |field t x f=>
  simp only[A6,ya]at h;obtain⟨⟨h1,h2⟩,h3⟩:=h;unfold Rj at h2;unfold Rk at h3;split at h2
  ·rename_i fs uw
   split at h2
   ·rename_i fd Jd
    simp only[ya,beq_iff_eq,bne_iff_ne]at h2;obtain⟨⟨h4,h5⟩,h6⟩:=h2;obtain⟨i,hi,hs⟩:=P9 h5;rw[uw]at h3;simp only[Jd]at h3;exact⟨t,x,f,fs,fd,i,rfl,h1,uw,Jd,h4,hi,hs,kW h3,h6⟩
   ·cases h2
  ·cases h2
 |_=>exact qa h
theorem gP{arr:Option Nat}{a7:Nat}{x' i':AL}(h:A6 P num op (.q8 arr a7 x' i')=true):∃t x i e inf,op = .indexAddr t x i/\BT x x'=true/\BT i i'=true/\P.info? e=some inf/\inf.size=a7 /\
  ((∃len,arr=some len/\P.underlying t=some (.array len e)/\1<len)\/(arr=none/\P.underlying t=some (.slice e)/\a7≠0)):=by
 cases op with
 |indexAddr t x i=>
  simp only[A6,ya]at h;obtain⟨⟨h1,h2⟩,h3⟩:=h;split at h3
  ·rename_i len e tc hu
   simp only[ya,beq_iff_eq,decide_eq_true_eq]at h3;obtain⟨⟨h4,h5⟩,h6⟩:=h3;obtain⟨inf,hi,hs⟩:=P9 h5;exact⟨t,x,i,e,inf,rfl,h1,h2,hi,hs,.inl ⟨len,by rw[h4],hu,h6⟩⟩
  ·rename_i e hu
   simp only[ya,bne_iff_ne]at h3;obtain⟨inf,hi,hs⟩:=P9 h3.1;exact⟨t,x,i,e,inf,rfl,h1,h2,hi,hs,.inr ⟨rfl,hu,h3.2⟩⟩
  ·cases h3
 |_=>exact qa h
theorem Tv{agg:Bool}{n:Nat}{x':AL}(h:A6 P num op (.ld agg n x')=true):∃t x,op = .load t x/\BT x x'=true/\(∀w,(isAgg t).run P w = .ok agg w)/\(if agg then∃i,P.info? t=some i/\i.size=n else n=1):=by
 cases op with
 |load t x=>
  simp only[A6,ya]at h;obtain⟨⟨h1,h2⟩,h3⟩:=h;refine⟨t,x,rfl,h1,kW h2,?_⟩;cases agg
  ·simpa using h3
  ·exact P9 (by simpa using h3)
 |_=>exact qa h
theorem Ak1{n:Nat}{x' v':AL}(h:A6 P num op (.st n x' v')=true):∃t x v i,op = .store t x v/\BT x x'=true/\BT v v'=true/\P.info? t=some i/\i.size=n:=by
 cases op with
 |store t x v=>
  simp only[A6,ya]at h;obtain⟨⟨h1,h2⟩,h3⟩:=h;obtain⟨i,hi,hs⟩:=P9 h3;exact⟨t,x,v,i,rfl,h1,h2,hi,hs⟩
 |_=>exact qa h
theorem AkV{s a7 bytes:Nat}{zero:w_}{l' c':AL}(h:A6 P num op (.mk s a7 bytes zero l' c')=true):∃t l c e i z,op = .makeSlice t l c/\BT l l'=true/\BT c c'=true/\P.underlying t=some (.slice e)/\P.info? e=some i/\i.size=a7/\i.bytes=bytes/\i.zero=some z/\QU z.cells.toList zero=true/\a7≠0:=by
 cases op with
 |makeSlice t l c=>
  simp only[A6,ya,bne_iff_ne]at h;obtain⟨⟨⟨h1,h2⟩,h3⟩,h4⟩:=h;obtain⟨e,he,h3⟩:=WX h3;simp only[ya]at h3;obtain⟨⟨h5,h6⟩,h7⟩:=h3;obtain⟨i,hi,hs⟩:=P9 h5;obtain⟨i2,va,yl⟩:=vA h6;obtain⟨i3,z,Dh,hz,gf⟩:=tB h7;rw[hi]at va Dh;obtain rfl:i=i2:=by simpa using va
  obtain rfl:i=i3:=by simpa using Dh
  exact⟨t,l,c,e,i,z,rfl,h1,h2,he,hi,hs,yl,hz,gf,h4⟩
 |_=>exact qa h
theorem oN{a7:Nat}{x':AL}{pf w6:Option AL}(h:A6 P num op (.ik a7 x' pf w6)=true):∃t x lo hi e i,op = .slice t x lo hi none/\BT x x'=true/\OK lo pf=true/\OK hi w6=true/\P.underlying t=some (.slice e)/\P.info? e=some i/\i.size=a7/\a7≠0:=by
 cases op with
 |slice t x lo hi mx=>
  cases mx with
  |some _=>exact qa h
  |none=>
   simp only[A6,ya,bne_iff_ne]at h;obtain⟨⟨⟨⟨h1,h2⟩,h3⟩,h4⟩,h5⟩:=h;obtain⟨e,he,h4⟩:=WX h4;obtain⟨i,w6,hs⟩:=P9 h4;exact⟨t,x,lo,hi,e,i,rfl,h1,h2,h3,he,w6,hs,h5⟩
 |_=>exact qa h
theorem AkR{x':AL}{i:Nat}(h:A6 P num op (.ext x' i)=true):∃x,op = .extract x i/\BT x x'=true:=by
 cases op with
 |extract x j=>
  simp only[A6,ya,beq_iff_eq]at h;exact⟨x,by rw[h.2],h.1⟩
 |_=>exact qa h
theorem Yc{α:Type}{xs:Array α}{x y:α}(h:xs.toList=[x,y]):xs = #[x,y]:=by cases xs;simp_all
theorem Yb{α:Type}{xs:Array α}{x:α}(h:xs.toList=[x]):xs = #[x]:=by cases xs;simp_all
theorem AkU{x':AL}(h:A6 P num op (.len x')=true):∃x t e,op = .call ⟨.builtin .len,#[x],#[t]⟩/\BT x x'=true/\P.underlying t=some (.slice e):=by
 cases op with
 |call c=>
  obtain⟨cl,xs,ts⟩:=c;cases cl with
  |builtin b=>
   cases b<;>first|exact qa h|skip
   simp only[A6]at h;split at h
   ·rename_i x t hx ht
    simp only[ya]at h;obtain⟨e,he,_⟩:=WX h.2;exact⟨x,t,e,by rw[Yb hx,Yb ht],h.1,he⟩
   ·cases h
  |value f=>cases f<;>exact qa h
  |invoke=>exact qa h
 |_=>exact qa h
theorem Tw{mx:Bool}{xs':List AL}(h:A6 P num op (.mm mx xs')=true):∃xs ts,op = .call ⟨.builtin (if mx then .max else .min),xs,ts⟩/\EH xs.toList xs'=true:=by
 cases op with
 |call c=>
  obtain⟨cl,xs,ts⟩:=c;cases cl with
  |builtin b=>
   cases b<;>first|exact qa h|skip
   all_goals
    simp only[A6,ya]at h;refine⟨xs,ts,?_,h.2⟩;cases mx<;>simp_all
  |value f=>cases f<;>exact qa h
  |invoke=>exact qa h
 |_=>exact qa h
theorem Qa{s a7 bytes:Nat}{x' y':AL}(h:A6 P num op (.app s a7 bytes x' y')=true):∃x y t e i z tx ex,op = .call ⟨.builtin .append,#[x,y],#[t,tx]⟩/\BT x x'=true/\BT y y'=true/\P.underlying t=some (.slice e)/\P.info? e=some i/\i.size=a7/\i.bytes=bytes/\i.zero=some z/\z.cells.size=a7/\a7≠0/\P.underlying tx=some (.slice ex):=by
 cases op with
 |call c=>
  obtain⟨cl,xs,ts⟩:=c;cases cl with
  |builtin b=>
   cases b<;>first|exact qa h|skip
   simp only[A6]at h;split at h
   ·rename_i x y t u hx ht
    simp only[ya,beq_iff_eq,bne_iff_ne]at h;obtain⟨⟨⟨⟨h1,h2⟩,h3⟩,h4⟩,h5⟩:=h;obtain⟨e,he,h3⟩:=WX h3;simp only[ya]at h3;obtain⟨⟨h6,h7⟩,h8⟩:=h3;obtain⟨i,hi,hs⟩:=P9 h6;obtain⟨i2,va,yl⟩:=vA h7;obtain⟨i3,z,Dh,hz,gf⟩:=Zs h8;rw[hi]at va Dh;obtain rfl:i=i2:=by simpa using va
    obtain rfl:i=i3:=by simpa using Dh
    obtain⟨ex,hex,_⟩:=WX h5;exact⟨x,y,t,e,i,z,u,ex,by rw[Yc hx,Yc ht],h1,h2,he,hi,hs,yl,hz,gf,h4,hex⟩
   ·cases h
  |value f=>cases f<;>exact qa h
  |invoke=>exact qa h
 |_=>exact qa h
theorem gO{f:Nat}{xs':List AL}(h:A6 P num op (.call f xs')=true):∃xs ts,op = .call ⟨.value (.func (num f)),xs,ts⟩/\EH xs.toList xs'=true:=by
 cases op with
 |call c=>
  obtain⟨cl,xs,ts⟩:=c;cases cl with
  |builtin b=>cases b<;>exact qa h
  |value g=>
   cases g with
   |func g=>
    simp only[A6,ya,beq_iff_eq]at h;exact⟨xs,ts,by rw[h.1],h.2⟩
   |_=>exact qa h
  |invoke=>exact qa h
 |_=>exact qa h
theorem AkM{f:Nat}{xs':List AL}(h:A6 P num op (.j5 f xs')=true):∃xs ts,op = .call ⟨.value (.func (num f)),xs,ts⟩/\EH xs.toList xs'=true:=by
 cases op with
 |call c=>
  obtain⟨cl,xs,ts⟩:=c;cases cl with
  |builtin b=>cases b<;>exact qa h
  |value g=>
   cases g with
   |func g=>
    simp only[A6,ya,beq_iff_eq]at h;exact⟨xs,ts,by rw[h.1],h.2⟩
   |_=>exact qa h
  |invoke=>exact qa h
 |_=>exact qa h
theorem AkN{f:Nat}{xs':List AL}(h:A6 P num op (.o5 f xs')=true):A6 P num op (.call f xs')=true:=by
 cases op<;>exact h
theorem AkY{x':AL}(h:A6 P num op (.kx x')=true):∃x,op = .nilCheck x/\BT x x'=true:=by
 cases op with
 |nilCheck x=>exact⟨x,rfl,h⟩
 |_=>exact qa h
theorem AkP{s f:Nat}{xs':List AL}(h:A6 P num op (.cz s f xs')=true):A6 P num op (.j5 f xs')=true:=by
 cases op<;>exact h
theorem AkO{s f:Nat}{xs':List AL}(h:A6 P num op (.x5 s f xs')=true):A6 P num op (.call f xs')=true:=by
 cases op<;>exact h
theorem Ak2{s n:Nat}{x' v':AL}(h:A6 P num op (.po s n x' v')=true):A6 P num op (.st n x' v')=true:=by
 cases op<;>exact h
theorem Tt{s a7 bytes:Nat}{x' y':AL}(h:A6 P num op (.di s a7 bytes x' y')=true):A6 P num op (.app s a7 bytes x' y')=true:=by
 cases op<;>exact h
theorem AkT{ne:Bool}{x':AL}(h:A6 P num op (.ta ne x')=true):∃t x u e,op = .binOp (if ne then .neq else .eql) t x (.const (.slice none 0 0)) u/\P.underlying t=some (.slice e)/\BT x x'=true:=by
 cases op with
 |binOp f' t x y u=>
  simp only[A6]at h;split at h
  ·rename_i heq
   simp only[Op.binOp.injEq]at heq;obtain⟨rfl,rfl,rfl,rfl,rfl⟩:=heq;simp only[ya]at h;obtain⟨⟨h1,h2⟩,h3⟩:=h;unfold KF at h2;split at h2
   ·rename_i e he
    refine⟨t,x,u,e,?_,he,h3⟩;cases ne
    ·simp only[zb,if_false,beq_iff_eq]at h1;rw[h1];rfl
    ·simp only[if_true,beq_iff_eq]at h1;rw[h1];rfl
   ·cases h2
  ·cases h
 |_=>exact qa h
theorem Ak0{tb:u_}{i':AL}(h:A6 P num op (.ix tb i')=true):∃t s i,op = .index t (.const (.string s)) i/\P.underlying t=some .string/\s.data.toList.map (λb=>b.toNat)=tb/\BT i i'=true:=by
 cases op with
 |index t x i=>
  simp only[A6]at h;split at h
  ·rename_i heq
   simp only[Op.index.injEq]at heq;obtain⟨rfl,rfl,rfl⟩:=heq;simp only[ya,beq_iff_eq]at h;obtain⟨⟨h1,h2⟩,h3⟩:=h;exact⟨_,_,_,rfl,by split at h1<;>simp_all,h2,h3⟩
  ·cases h
 |_=>exact qa h
theorem AkW{p:Bool}{f:Nat}{xs':List AL}(h:A6 P num op (.pg p f xs')=true):∃first xs,op = .makeFunc (.func (num f)) first xs/\first = #[]/\EH xs.toList xs'=true:=by
 cases op with
 |makeFunc g first xs=>
  cases g with
  |func g=>
   simp only[A6,ya,beq_iff_eq]at h;obtain⟨⟨rfl,h2⟩,h3⟩:=h;refine⟨first,xs,rfl,?_,h3⟩;obtain⟨l⟩:=first
   simp at h2;rw[h2]
  |_=>exact qa h
 |_=>exact qa h
theorem oM{x':AL}{xs':List AL}(h:A6 P num op (.u6 x' xs')=true):∃x xs ts,op = .call ⟨.value x,xs,ts⟩/\BT x x'=true/\EH xs.toList xs'=true:=by
 cases op with
 |call c=>
  obtain⟨cl,xs,ts⟩:=c;cases cl with
  |builtin b=>cases b<;>exact qa h
  |value g=>
   simp only[A6,ya]at h;exact⟨g,xs,ts,rfl,h.1,h.2⟩
  |invoke=>exact qa h
 |_=>exact qa h
end
end Go.Eng

namespace Go.Eng
open Go.RowKit
def B3.ah:B3->Own->Own
 |.val _,o=>o
 |.new s b _,o=>o.put s ((o s).new b)
 |.zj s b _,o=>o.put s ((o s).new b)
 |.bz _ o',_=>o'
 |.Au s _ o',o=>o'.put s (o s)
 |.q9 s x,o=>o.put s x
 |.rp s x _,o=>o.put s x
def B3.valOf:B3->Own->AV
 |.val v,_=>v
 |.new s _ v,o=>v (o.j6 s)
 |.zj s _ v,o=>v (o.j6 s)
 |.bz v _,_=>v
 |.Au _ v _,_=>v
 |.q9 _ _,_=>.j4 []
 |.rp _ _ v,_=>v
section
variable {B:Nat} {S:Nat->Prop} {w0:F2} {m:M}
theorem I4{k:IntKind}{n:Int}{v:Value}(h:CV B S m (.int k n) v):v = .int k n:=by
 cases h with
 |ca h=>cases h with
  |one h=>cases h with
   |rd h=>cases h;rfl
theorem VR{b:Bool}{v:Value}(h:CV B S m (.bool b) v):v = .bool b:=by
 cases h with
 |ca h=>cases h with
  |one h=>cases h with
   |rd h=>cases h;rfl
theorem Ag4{cs:w_}{v:Value}(h:CV B S m (.agg cs) v):∃vs:List Value,v = .agg vs.toArray/\CL B S m cs vs:=by
 cases h with
 |ca h=>cases h with
  |one h=>cases h with
   |rd h=>cases h
  |agg _ vs h=>exact⟨vs,rfl,h⟩
theorem lR{cs:w_}{v:Value}(h:CV B S m (.j4 cs) v):∃vs:List Value,v = .tuple vs.toArray/\cs.length=vs.length/\∀(j:Nat)(c:AV)(u:Value),cs[j]?=some c->vs[j]?=some u->CA B S m c u:=by
 cases h with
 |ca h=>cases h with
  |one h=>cases h with
   |rd h=>cases h
 |j4 _ vs hl h=>exact⟨vs,rfl,hl,h⟩
theorem SX(k:IntKind)(n:Int):CV B S m (.int k n) (.int k n):= .ca (.one (.rd (.int k n)))
theorem iA(b:Bool):CV B S m (.bool b) (.bool b):= .ca (.one (.rd (.bool b)))
theorem Tf:CV B S m (.j4 []) undef := .j4 [] [] rfl (λj c v h=>by simp at h)
theorem eK{a:AV}{cs:w_}{v:Value}(h:CV B S m a v)(hc:cellsOf a=some cs):CL B S m cs v.cells.toList:=by
 cases h with
 |any v=>simp[cellsOf]at hc
 |j4=>simp[cellsOf]at hc
 |ca h=>cases h with
  |agg fu vs h=>
   obtain rfl:fu=cs:=by simpa [cellsOf]using hc
   simpa [Value.cells]using h
  |fn=>simp[cellsOf]at hc
  |tf=>simp[cellsOf]at hc
  |one h=>
   have h1:v.cells.toList=[v]:=by
    cases h with
    |rd h=>cases h<;>rfl
    |_=>rfl
   have h2:cs=[a]:=by
    cases h with
    |rd h=>cases h<;>simp[cellsOf]at hc<;>exact hc.symm
    |_=>simp[cellsOf]at hc;exact hc.symm
   rw[h1,h2];refine⟨rfl,λj c u hj hu=>?_⟩;cases j with
   |zero=>simp at hj hu;subst hj hu;exact h
   |succ j=>simp at hj
theorem AgD{cs:w_}{vs:List Value}(h:CL B S m cs vs):∀v∈vs,v.oneCell'=true:=by
 intro v hv;obtain⟨j,hj,rfl⟩:=Dc hv;have Dj:j<cs.length:=by rw[h.1];exact hj
 exact(h.2 j cs[j] vs[j] (zE Dj) (zE hj)).one
theorem AgE{cs:w_}{vs:List Value}(h:CL B S m cs vs)(off n:Nat):CL B S m ((cs.drop off).take n) ((vs.drop off).take n):=by
 refine⟨by simp[h.1],λj c v hj hv=>?_⟩;rw[La]at hj hv;split at hj
 ·rename_i hlt
  rw[if_pos hlt]at hv;rw[Ja]at hj hv;exact h.2 _ c v hj hv
 ·cases hj
theorem xY{v:Value}{a:AV}(h:fJ v a=true):CC B S m a v:=by
 unfold fJ at h;split at h
 ·simp only[ya,beq_iff_eq]at h
  obtain⟨rfl,rfl⟩:=h;exact .rd (.int _ _)
 ·obtain rfl:_=_:=by simpa using h
  exact .rd (.bool _)
 ·exact .nil
 ·rename_i s s'
  obtain rfl:s=s':=by
   have h':s.data.toList=s'.data.toList:=by simpa using h
   obtain⟨⟨l⟩⟩:=s;obtain⟨⟨l'⟩⟩:=s';simp only at h';rw[h']
  exact .rd (.str _)
 ·exact .rd .ml
 ·exact .rd .mn
 ·cases h
theorem X6:∀{vs:List Value}{cs:w_},QU vs cs=true->CL B S m cs vs
 |[],[],_=>⟨rfl,λj c v h=>by simp at h⟩
 |v::r,c::l,h=>by
  simp only[QU,ya]at h;have ih:=X6 (vs:=r) (cs:=l) h.2;refine⟨by simp[ih.1],λj c' v' hj hv=>?_⟩;cases j with
  |zero=>simp at hj hv;subst hj hv;exact xY h.1
  |succ j=>exact ih.2 j c' v' (by simpa using hj) (by simpa using hv)
 |[],_::_,h=>by simp[QU]at h
 |_::_,[],h=>by simp[QU]at h
theorem Aio{v:Value}{a:AV}(h:mN v a=true):CV B S m a v:=by
 unfold mN at h;split at h
 ·rename_i cs l
  have:=X6 (B:=B) (S:=S) (m:=m) h
  exact .ca (by simpa using CA.agg l cs.toList this)
 ·exact .ca (.one (xY h))
def CB(B:Nat)(S:Nat->Prop)(m:M)(ρ:AL->AV)(e:Operand->Value):Prop := ∀x y,BT x y=true->CV B S m (ρ y) (e x)
theorem Am3{T:Nat->AV}{a:Act}{ρ:AL->AV}(hρt:∀n,ρ (.t n)=T n)(hρc:∀v,ρ (.c v)=v)(h:∀i,CV B S m (T i) (a.tmps.getD i undef)):CB B S m ρ a.eval:=by
 intro x y ue;unfold BT at ue;split at ue
 ·obtain rfl:_=_:=by simpa using ue
  rw[hρt];exact h _
 ·rw[hρc]
  exact Aio ue
 ·obtain rfl:_=_:=by simpa using ue
  rw[hρc];exact .ca (.fn _ _ _ [] [] (λ_=>rfl) ⟨rfl,λj c v h=>by simp at h⟩)
 ·cases ue
variable {P:Program} {num:Nat->Nat} {o:Oper} {a:Act} {ρ:AL->AV} {K:Act->World->Prop} {Q:Exit->Act->World->Prop}
theorem N7{w w':World}{u:Value}(h:(execOp a.eval o).run P w = .ok (.value u) w')(hk:K (a.put o.dst u) w'):o.wp P a w K Q:=by
 unfold Oper.wp;rw[h];exact hk
theorem Xl{w w':World}(h:(execOp a.eval o).run P w = .ok .skip w')(hk:K (a.put o.dst undef) w'):o.wp P a w K Q:=by
 unfold Oper.wp;rw[h];exact hk
def CF(B:Nat)(S:Nat->Prop)(w0:F2)(P:Program)(o:Oper)(a:Act)(m:M)(E:B3):Prop :=
 ∀(K:Act->World->Prop)(Q:Exit->Act->World->Prop),(∀u m',m'.own=E.ah m.own->BH B S w0 m'->CU B S m m'->CV B S m' (E.valOf m.own) u->K (a.put o.dst u) m'.w)->o.wp P a m.w K Q
theorem ER(hm:BH B S w0 m){v:AV}{u:Value}(h:(execOp a.eval o).run P m.w = .ok (.value u) m.w)(hc:CV B S m v u):CF B S w0 P o a m (.val v) :=
 λK Q hK=>N7 h (hK u m rfl hm (CU.refl m) hc)
theorem AhW(hm:BH B S w0 m)(hs:CB B S m ρ a.eval){y:AL}(h:A6 P num o.op (.o9 y)=true):CF B S w0 P o a m (.val (ρ y)):=by
 obtain⟨x,hx,he⟩:=AkX h;refine ER hm (u:=a.eval x) ?_ (hs x y he);rcases hx with hx|hx<;>simp[execOp,hx]
theorem Ah5(hm:BH B S w0 m){s z:Nat}(w7:s<D9)(h:A6 P num o.op (.z8 s z)=true):CF B S w0 P o a m (.zj s ⟨z,[]⟩ (λt=>.row s t z 0 0)):=by
 obtain⟨hx,hz⟩:=Ak4 h;intro K Q hK;obtain⟨h1,h2⟩:=Yn hm s z w7;refine N7 (u := .slice none 0 0) (w':=m.w) ?_ (hK _ ⟨j9 m s none,m.own.put s ((m.own s).new ⟨z,[]⟩),m.w⟩ rfl h1 h2 ?_)
 ·rcases hx with hx|hx<;>simp[execOp,hx,Act.eval]
 ·refine .ca (.one (.row s (m.own.j6 s) z 0 0 none 0 ?_ O' (Ma _) (λh=>O') (λb hb=>?_) w7))
  ·show _<Own.j6 _ s
   rw[KP];simp
  ·change Own.get _ s _=some b at hb
   rw[FV,if_pos ⟨rfl,rfl⟩]at hb;obtain rfl:(⟨z,[]⟩:C2)=b:=by simpa using hb
   exact⟨rfl,.inl ⟨rfl,rfl⟩⟩
theorem wZ(hm:BH B S w0 m)(hs:CB B S m ρ a.eval){c' a' b':AL}(h:A6 P num o.op (.pick c' a' b')=true){t:Bool}(hc:ρ c' = .bool t) :
  CF B S w0 P o a m (.val (if t then ρ a' else ρ b')):=by
 obtain⟨c,x,y,o6,h1,h2,h3⟩:=AkZ h;have hcv:=VR (hc▸hs c c' h1);refine ER hm (u:=if t then a.eval x else a.eval y) ?_ ?_
 ·cases t<;>simp[execOp,o6,hcv,asBool]
 ·cases t
  ·exact hs y b' h3
  ·exact hs x a' h2
theorem AmZ(f:BinOp)(t:TypeId)(k k':IntKind)(x y:Int)(v:AV)(h:C5 f k x k' y=some v)(w:World):∃u,(binOp f t (.int k x) (.int k' y)).run P w = .ok u w/\((∃n,v = .int k n/\u = .int k n)\/∃b,v = .bool b/\u = .bool b):=by
 cases f<;>simp only[C5]at h;case shl=>
  split at h
  ·cases h
  ·rename_i hy;simp at h;subst h
   exact⟨_,by simp[binOp,Op.shift,hy],.inl ⟨_,rfl,rfl⟩⟩
 case shr=>
  split at h
  ·cases h
  ·rename_i hy;simp at h;subst h
   exact⟨_,by simp[binOp,Op.shift,hy],.inl ⟨_,rfl,rfl⟩⟩
 case quo=>
  split at h
  ·rename_i hy;obtain⟨rfl,hy⟩:=hy;simp at h;subst h
   exact⟨_,by simp[binOp,Op.intDiv,hy],.inl ⟨_,rfl,rfl⟩⟩
  ·cases h
 case rem=>
  split at h
  ·rename_i hy;obtain⟨rfl,hy⟩:=hy;simp at h;subst h
   exact⟨_,by simp[binOp,Op.intDiv,hy],.inl ⟨_,rfl,rfl⟩⟩
  ·cases h
 case and|or|xor|andNot=>
  all_goals
   split at h
   ·rename_i hk;subst hk;obtain rfl:=ga h
    exact⟨_,by simp only[binOp,ne_eq,not_true_eq_false,if_false];rfl,.inl ⟨_,rfl,rfl⟩⟩
   ·cases h
 case add|sub|mul=>
  all_goals
   split at h
   ·rename_i hk;subst hk;obtain rfl:=ga h
    exact⟨_,by simp[binOp,Op.intArith],.inl ⟨_,rfl,rfl⟩⟩
   ·cases h
 all_goals
  split at h
  ·rename_i hk;subst hk;obtain rfl:=ga h
   exact⟨_,by simp[binOp,Op.intCmp],.inr ⟨_,rfl,rfl⟩⟩
  ·cases h
theorem AmT(f:BinOp)(t:TypeId)(x y:Operand)(k k':IntKind)(n n':Int)(w:World):(eqGuard f t x y (.int k n) (.int k' n')).run P w = .ok () w:=by
 unfold eqGuard;cases f<;>simp
theorem AmU(f:BinOp)(t:TypeId)(x y:Operand)(b b':Bool)(w:World):(eqGuard f t x y (.bool b) (.bool b')).run P w = .ok () w:=by
 unfold eqGuard;cases f<;>simp
theorem Aht(hm:BH B S w0 m)(hs:CB B S m ρ a.eval){f:BinOp}{x' y':AL}(h:A6 P num o.op (.bin f x' y')=true){k k':IntKind}{n n':Int}{v:AV}(hx:ρ x' = .int k n)(hy:ρ y' = .int k' n')(hv:C5 f k n k' n'=some v) :
  CF B S w0 P o a m (.val v):=by
 obtain⟨t,x,y,u,o6,h1,h2⟩:=AkI h;have ex:=I4 (hx▸hs x x' h1);have ey:=I4 (hy▸hs y y' h2);obtain⟨r,hr,dp⟩:=AmZ (P:=P) f t k k' n n' v hv m.w;refine ER hm (u:=r) ?_ ?_
 ·simp[execOp,o6,ex,ey,AmT,hr]
 ·rcases dp with⟨q,rfl,rfl⟩|⟨q,rfl,rfl⟩
  ·exact SX _ _
  ·exact iA _
theorem AmW(t:TypeId)(b b':Bool)(hu:P.underlying t=some .bool)(w:World):(Op.equal t (.bool b) (.bool b')).run P w = .ok (b == b') w:=by
 have h:∀d:Nat,(Op.equalIn (d+1) t (.bool b) (.bool b')).run P w = .ok (b == b') w:=λd=>by
  unfold Op.equalIn;rw[Sem.run_bind,run_underlying hu];rfl
 exact h 9999
theorem Ahs(hm:BH B S w0 m)(hs:CB B S m ρ a.eval){ne:Bool}{x' y':AL}(h:A6 P num o.op (.beq ne x' y')=true){b b':Bool}(hx:ρ x' = .bool b)(hy:ρ y' = .bool b') :
  CF B S w0 P o a m (.val (.bool (if ne then !(b == b')else b == b'))):=by
 obtain⟨t,x,y,u,o6,hu,h1,h2⟩:=AkH h;have ex:=VR (hx▸hs x x' h1);have ey:=VR (hy▸hs y y' h2);refine ER hm (u := .bool (if ne then !(b == b')else b == b')) ?_ (iA _);cases ne<;>simp[execOp,o6,ex,ey,AmU,binOp,AmW t b b' hu]
theorem Ah4(hm:BH B S w0 m)(hs:CB B S m ρ a.eval){f:UnOp}{x':AL}(h:A6 P num o.op (.un f x')=true){v:AV}(hv:UU f (ρ x')=some v):CF B S w0 P o a m (.val v):=by
 obtain⟨t,x,o6,h1⟩:=Ak3 h;have hx:=hs x x' h1;unfold UU at hv;split at hv
 ·rename_i k n hk
  have ex:=I4 (hk▸hx);split at hv
  ·obtain rfl:_=v:=by simpa using hv
   exact ER hm (by simp[execOp,o6,ex,Op.unary,Op.intArith]) (SX _ _)
  ·obtain rfl:_=v:=by simpa using hv
   exact ER hm (by simp only[execOp,o6,ex,Op.unary];rfl) (SX _ _)
  ·cases hv
 ·rename_i b hk
  have ex:=VR (hk▸hx);split at hv
  ·obtain rfl:_=v:=by simpa using hv
   exact ER hm (by simp[execOp,o6,ex,Op.unary]) (iA _)
  ·cases hv
 ·cases hv
theorem AhD(hm:BH B S w0 m)(hs:CB B S m ρ a.eval){k:IntKind}{x':AL}(h:A6 P num o.op (.conv k x')=true){k':IntKind}{n:Int}(hx:ρ x' = .int k' n):CF B S w0 P o a m (.val (.int k (k.wrap n))):=by
 obtain⟨s,d,x,ds,o6,tn,hd,h1⟩:=AkQ h;have ex:=I4 (hx▸hs x x' h1);refine ER hm (u := .int k (k.wrap n)) ?_ (SX _ _);simp[execOp,o6,ex,convert,run_underlying tn,run_underlying hd,Conv.intToInt]
theorem AmX(t:TypeId)(a:Option Addr)(n c:Nat){e:TypeId}(hu:P.underlying t=some (.slice e))(w:World):(Op.equal t (.slice a n c) (.slice none 0 0)).run P w = .ok a.isNone w:=by
 have h:∀d:Nat,(Op.equalIn (d+1) t (.slice a n c) (.slice none 0 0)).run P w = .ok a.isNone w:=λd=>by
  unfold Op.equalIn;rw[Sem.run_bind,run_underlying hu];cases a<;>rfl
 exact h 9999
theorem AmV(f:BinOp)(t:TypeId)(x y:Operand)(a b:Option Addr)(n c n' c':Nat)(w:World):(eqGuard f t x y (.slice a n c) (.slice b n' c')).run P w = .ok () w:=by
 unfold eqGuard;cases f<;>simp
theorem fE(hm:BH B S w0 m)(hs:CB B S m ρ a.eval){ne:Bool}{x':AL}(h:A6 P num o.op (.ta ne x')=true){b:Bool}(hx:∀v,CV B S m (ρ x') v->∃ad n c,v = .slice ad n c/\ad.isNone=b) :
  CF B S w0 P o a m (.val (.bool (xor b ne))):=by
 obtain⟨t,x,u,e,o6,hu,h1⟩:=AkT h;obtain⟨ad,n,c,ex,hb⟩:=hx _ (hs x x' h1);refine ER hm (u := .bool (xor b ne)) ?_ (iA _);have e0:a.eval (.const (.slice none 0 0)) = .slice none 0 0:=rfl;cases ne<;>cases b<;>simp[execOp,o6,ex,e0,AmV,binOp,AmX t ad n c hu,hb]
theorem VS{v:Value}(h:CV B S m .nil v):v = .slice none 0 0:=by
 cases h with
 |ca h=>cases h with
  |one h=>cases h with
   |rd h=>cases h
   |nil=>rfl
theorem wC{b:Bool}{v:Value}(h:CV B S m (.x7 (.bool b)) v):∃ad c,v = .slice ad 0 c/\ad.isNone=b:=by
 cases h with
 |ca h=>cases h with
  |one h=>cases h with
   |rd h=>cases h with
    |emp b a cap h=>exact⟨a,cap,rfl,h⟩
theorem Ag8{l:Bool}{e:w_}{es:v_}{v:Value}(h:CV B S m (.sl l (e::es)) v):∃ad n c,v = .slice ad n c/\ad.isNone=false:=by
 cases h with
 |ca h=>cases h with
  |one h=>cases h with
   |rd h=>cases h with
    |sl=>exact⟨_,_,_,rfl,rfl⟩
theorem Ag7{s t z off n:Nat}{v:Value}(h:CV B S m (.row s t z off (n+1)) v):∃ad n c,v = .slice ad n c/\ad.isNone=false:=by
 cases h with
 |ca h=>cases h with
  |one h=>cases h with
   |rd h=>cases h
   |row _ _ _ _ _ a cap _ _ _ ha=>exact⟨_,_,_,rfl,by have:=ha O';cases a<;>simp_all⟩
theorem AhZ(hm:BH B S w0 m)(hs:CB B S m ρ a.eval){tb:u_}{x':AL}(h:A6 P num o.op (.ix tb x')=true){k:IntKind}{n:Int}{v:Nat}(hx:ρ x' = .int k n)(h0:0<=n)(hv:tb[n.toNat]?=some v) :
  CF B S w0 P o a m (.val (.int .u8 v)):=by
 obtain⟨t,s,i,o6,hu,Hg,h1⟩:=Ak0 h;have ex:=I4 (hx▸hs i x' h1);have hb:∃b:UInt8,s[n.toNat]?=some b/\b.toNat=v:=by
  rw[<-Hg,Oa]at hv;cases hg:s.data.toList[n.toNat]? with
  |none=>simp[hg]at hv
  |some b=>
   simp only[hg,Aa,za]at hv;refine⟨b,?_,hv⟩;have hlt:n.toNat<s.size:=by
    have:=(zS hg).1
    simpa using this
   rw[getElem?_pos s n.toNat hlt];congr 1;have:=(zS hg).2
   rw[<-this];rfl
 obtain⟨b,ou,v8⟩:=hb;refine ER hm (u := .int .u8 v) ?_ (SX _ _);have e0:a.eval (.const (.string s)) = .string s:=rfl;simp[execOp,o6,ex,e0,Instr.index,asIntOf,run_underlying hu,h0,ou,v8]
theorem Amc{x c:AV}{v:Value}(h:CV B S m x v)(hc:IA x=some c):CC B S m c v:=by
 cases h with
 |any=>simp[IA]at hc
 |j4=>simp[IA]at hc
 |ca h=>cases h with
  |agg=>simp[IA]at hc
  |fn=>simp[IA]at hc
  |tf=>simp[IA]at hc
  |one h=>
   have:c=x:=by
    cases h with
    |rd h=>cases h<;>simp[IA]at hc<;>exact hc.symm
    |_=>simp[IA]at hc;exact hc.symm
   subst this;exact h
theorem xW(hs:CB B S m ρ a.eval):∀{xs:List Operand}{xs':List AL}{cs:w_},EH xs xs'=true->xs'.mapM (λx=>IA (ρ x))=some cs->CL B S m cs (xs.map a.eval)
 |[],[],cs,_,h=>by
  simp at h;subst h;exact⟨rfl,λj c v h=>by simp at h⟩
 |x::r,y::l,cs,h,hc=>by
  simp only[EH,ya]at h;simp only[fb,db,xc]at hc;cases h1:IA (ρ y)with
  |none=>simp[h1]at hc
  |some c=>
   cases h2:l.mapM (λx=>IA (ρ x))with
   |none=>simp[h1,h2]at hc
   |some fu=>
    simp[h1,h2]at hc;subst hc;have ih:=xW hs h.2 h2;refine⟨by simpa using ih.1,λj c' v hj hv=>?_⟩;cases j with
    |zero=>
     simp at hj hv;subst hj hv;exact Amc (hs x y h.1) h1
    |succ j=>exact ih.2 j c' v (by simpa using hj) (by simpa using hv)
 |[],_::_,_,h,_=>by simp[EH]at h
 |_::_,[],_,h,_=>by simp[EH]at h
theorem AhR(hm:BH B S w0 m)(hs:CB B S m ρ a.eval){p:Bool}{f:Nat}{xs':List AL}(h:A6 P num o.op (.pg p f xs')=true){cs:w_}(hc:xs'.mapM (λx=>IA (ρ x))=some cs) :
  CF B S w0 P o a m (.val (.fn (p&&cs.isEmpty) f (num f) cs)):=by
 obtain⟨first,xs,o6,rfl,he⟩:=AkW h;have s8:=xW hs he hc;have bg:(xs.map a.eval)=(xs.toList.map a.eval).toArray:=by cases xs;simp
 refine ER hm (u := .func (.func (num f)) #[] (xs.toList.map a.eval).toArray) ?_ (.ca (.fn (p&&cs.isEmpty) f (num f) cs _ (λh=>by simpa using(ya _ _▸h:p=true/\cs.isEmpty=true).2) s8));simp[execOp,o6,Instr.makeFunc,bg]
end
end Go.Eng

namespace Go.Eng
open Go.RowKit
section
variable {B:Nat} {S:Nat->Prop} {w0:F2} {m:M}
variable {P:Program} {num:Nat->Nat} {o:Oper} {a:Act} {ρ:AL->AV}
theorem XX{cs:w_}{vs:List Value}(h:CL B S m cs vs){j:Nat}{c:AV}(hj:cs[j]?=some c):∃u,vs[j]?=some u/\CC B S m c u:=by
 have hlt:j<cs.length:=(zS hj).1;have nz:j<vs.length:=by rw[<-h.1];exact hlt
 exact⟨vs[j],zE nz,h.2 j c _ hj (zE nz)⟩
theorem Al2{s:Nat}(w7:s<D9){b:C2}{w':World}{g:Nat}:CV B S ⟨j9 m s (some g),m.own.put s ((m.own s).new b),w'⟩ (.ptr s (m.own.j6 s) 0 0) (.pointer (some ⟨g,0,none⟩)):=by
 refine .ca (.one (.ptr s (m.own.j6 s) 0 0 ⟨g,0,none⟩ ?_ (λb' j8=>⟨g,?_,Z'⟩) w7))
 ·show _<Own.j6 _ s
  rw[KP];simp
 ·simp[j9]
theorem wY(hm:BH B S w0 m)(s:Nat)(w7:s<D9)(cs:w_)(vs:Array Value)(e:TypeId)(hc:CL B S m cs vs.toList)(h:(execOp a.eval o).run P m.w = .ok (.value (.pointer (some ⟨m.w.heap.size,0,none⟩))) (m.w.alloc (.cells vs e))) :
  CF B S w0 P o a m (.new s ⟨cs.length,[cs]⟩ (λt=>.ptr s t 0 0)):=by
 intro K Q hK;obtain⟨h1,h2⟩:=kY hm s w7 ⟨cs.length,[cs]⟩ vs e Z' (λi fu hi j c hj=>by
  cases i with
  |zero=>
   obtain rfl:cs=fu:=by simpa using hi
   obtain⟨u,hu,bu⟩:=XX hc hj;exact⟨u,by simpa using hu,bu⟩
  |succ i=>simp at hi)
 exact N7 h (hK _ ⟨j9 m s (some m.w.heap.size),m.own.put s ((m.own s).new ⟨cs.length,[cs]⟩),m.w.alloc (.cells vs e)⟩ rfl h1 h2 (Al2 w7))
theorem Ahu(hm:BH B S w0 m)(hs:CB B S m ρ a.eval){s:Nat}(w7:s<D9){x':AL}(h:A6 P num o.op (.box s x')=true){cs:w_}(hc:cellsOf (ρ x')=some cs) :
  CF B S w0 P o a m (.new s ⟨cs.length,[cs]⟩ (λt=>.ptr s t 0 0)):=by
 obtain⟨t,x,o6,h1⟩:=AkJ h;exact wY hm s w7 cs (a.eval x).cells t (eK (hs x x' h1) hc) (by simp[execOp,o6,Instr.box,newVar,newRow])
theorem Ahq(hm:BH B S w0 m){s:Nat}(w7:s<D9){z:w_}(h:A6 P num o.op (.alloc s z)=true):CF B S w0 P o a m (.new s ⟨z.length,[z]⟩ (λt=>.ptr s t 0 0)):=by
 obtain⟨t,o6,h1⟩:=AkG h;obtain⟨i,v,hi,hz,he⟩:=tB h1;exact wY hm s w7 z v.cells t (X6 he) (by simp[execOp,o6,Instr.alloc,zeroValue,typeInfo,hi,hz,newVar,newRow])
theorem nS(off:Nat):∀(vs:List Value)(k:Nat)(cells:Array Value),off+k+vs.length<=cells.size ->
  ((vs.zipIdx k).foldl (λcs (x:Value×Nat)=>cs.setIfInBounds (off+x.2) x.1) cells).toList=cells.toList.take (off+k)++vs++cells.toList.drop (off+k+vs.length)
 |[],k,cells,_=>Z'
 |v::r,k,cells,h=>by
  simp only[Jc]at h;rw[List.zipIdx_cons,Od,nS off r (k+1) _ K'];simp only[Array.toList_setIfInBounds,Jc];apply List.ext_getElem?;intro q;have e1:(cells.toList.set (off+k) v).drop (off+(k+1)+r.length)=cells.toList.drop (off+k+(r.length+1)):=by
   rw[show off+(k+1)+r.length=off+k+(r.length+1)by omega];exact List.drop_set_of_lt O'
  have e2:(cells.toList.set (off+k) v).take (off+(k+1))=cells.toList.take (off+k)++[v]:=by
   rw[show off+(k+1)=off+k+1 by omega,List.take_succ_eq_append_getElem K'];simp[List.take_set_of_le]
  rw[e1,e2];simp
theorem nL(place:Nat->Option (Nat×Nat))(hs:CB B S m ρ a.eval):∀(ps:List (Nat×Operand))(cp:List (Nat×Nat×AL))(cs fu:w_)(vs:Array Value),WJ place ps cp=true->CL B S m cs vs.toList ->
  fill cs (cp.map λp=>(p.1,p.2.1,ρ p.2.2))=some fu->∃ct,Instr.fill place vs (ps.map λp=>(p.1,a.eval p.2))=some ct/\CL B S m fu ct.toList
 |[],[],cs,fu,vs,_,hc,hf=>by
  simp[fill]at hf;subst hf;exact⟨vs,rfl,hc⟩
 |(i,x)::r,(off,n,y)::l,cs,fu,vs,hp,hc,hf=>by
  simp only[WJ,ya,beq_iff_eq]at hp;obtain⟨⟨Np,Nq⟩,hp3⟩:=hp;simp only[rb,fill]at hf;cases hcell:cellsOf (ρ y)with
  |none=>simp[hcell]at hf
  |some us=>
   simp only[hcell]at hf;split at hf
   ·rename_i hn
    obtain⟨hn1,Nj⟩:=hn;have fh:=eK (hs x y Nq) hcell;have hsz:(a.eval x).cells.size=n:=by rw[<-hn1,fh.1];simp
    have Cc:off+(a.eval x).cells.size<=vs.size:=by rw[hsz];have:=hc.1;simp at this;omega
    have uv:=nS off (a.eval x).cells.toList 0 vs (by simpa using Cc);have ja:Instr.fill place vs (((i,x)::r).map λp=>(p.1,a.eval p.2))=Instr.fill place ((a.eval x).cells.zipIdx.foldl (λcs (c,j)=>cs.setIfInBounds (off+j) c) vs) (r.map λp=>(p.1,a.eval p.2)):=by
     simp only[rb,Instr.fill,Np];rw[if_neg K']
    rw[ja];refine nL place hs r l (splice cs off us) fu _ hp3 ?_ hf;have hz:((a.eval x).cells.zipIdx.foldl (λcs (c,j)=>cs.setIfInBounds (off+j) c) vs).toList=vs.toList.take off++(a.eval x).cells.toList++vs.toList.drop (off+(a.eval x).cells.toList.length):=by
     rw[<-Oc];simpa using uv
    rw[hz];unfold splice;refine⟨?_,λj c v hj hv=>?_⟩
    ·have:=hc.1;have:=fh.1;simp at*;omega
    ·have gq:=hc.1
     have iu:=fh.1;simp only[dc]at gq iu;rw[Me]at hj hv;simp only[Ie,Ob,dc]at hj hv;rw[Me]at hj hv;simp only[Ob,dc]at hj hv;have ig:min off cs.length=off:=O'
     have iy:min off vs.size=off:=O'
     rw[ig]at hj;rw[iy]at hv;rw[<-iu]at hv;split at hj
     ·rename_i h1
      rw[if_pos h1]at hv;split at hj
      ·rename_i h2
       rw[if_pos h2]at hv;rw[La]at hj hv;rw[if_pos h2]at hj hv;exact hc.2 j c v hj hv
      ·rename_i h2
       rw[if_neg h2]at hv;exact fh.2 _ c v hj hv
     ·rename_i h1
      rw[if_neg h1]at hv;rw[Ja]at hj hv;exact hc.2 _ c v hj hv
   ·cases hf
 |[],_::_,_,_,_,hp,_,_=>by simp[WJ]at hp
 |_::_,[],_,_,_,hp,_,_=>by simp[WJ]at hp
theorem Ahw(hm:BH B S w0 m)(hs:CB B S m ρ a.eval){z:w_}{cp:List (Nat×Nat×AL)}(h:A6 P num o.op (.build z cp)=true){cs:w_}(hf:fill z (cp.map λp=>(p.1,p.2.1,ρ p.2.2))=some cs) :
  CF B S w0 P o a m (.val (.agg cs)):=by
 obtain⟨t,ps,o6,h1,h2⟩:=AkL h;obtain⟨i,v,hi,hz,he⟩:=tB h1;have key:∃ct,P.built t (ps.map λp=>(p.1,a.eval p.2)).toList=some ct/\CL B S m cs ct.toList:=by
  unfold lG at h2;unfold Program.built;split at h2
  ·rename_i fs hu
   split at h2
   ·rename_i places hp
    obtain⟨ct,h3,h4⟩:=nL _ hs ps.toList cp z cs v.cells h2 (X6 he) hf;refine⟨ct,?_,h4⟩;simp only[hi,hu,hz,hp,Lc];exact h3
   ·cases h2
  ·rename_i n e hu
   split at h2
   ·rename_i ie Gc
    obtain⟨ct,h3,h4⟩:=nL _ hs ps.toList cp z cs v.cells h2 (X6 he) hf;refine⟨ct,?_,h4⟩;simp only[hi,hu,hz,Gc,Lc];exact h3
   ·cases h2
  ·cases h2
 obtain⟨ct,h3,h4⟩:=key;refine ER hm (u := .agg ct) ?_ (.ca (by simpa using CA.agg cs ct.toList h4));simp only[execOp,o6,Sem.run_bind];rw[run_build m.w t _ ct h3];rfl
theorem Rm(size:Nat)(hs:CB B S m ρ a.eval):∀(ps:List (Nat×Operand))(cp:List AL)(k:Nat)(es:v_)(vs:Array Value),VY k ps cp=true->cp.mapM (λx=>cellsOf (ρ x))=some es->(∀e∈es,e.length=size)->vs.size=(k+cp.length)*size ->
  ∃ct,Instr.fill (λi=>some (i*size,size)) vs (ps.map λp=>(p.1,a.eval p.2))=some ct/\ct.size=vs.size/\(∀q,q<k*size->ct[q]?=vs[q]?)/\∀i cs,es[i]?=some cs->∀j c,cs[j]?=some c->∃u,ct[(k+i)*size+j]?=some u/\CC B S m c u
 |[],[],k,es,vs,_,fi,_,_=>by
  simp at fi;subst fi;exact⟨vs,rfl,rfl,λ_ _=>rfl,λi cs hi=>by simp at hi⟩
 |(i,x)::r,y::l,k,es,vs,he,fi,hz,hv=>by
  simp only[VY,ya,beq_iff_eq]at he;obtain⟨⟨rfl,h1⟩,h2⟩:=he;simp only[fb,db,xc]at fi;cases hcell:cellsOf (ρ y)with
  |none=>simp[hcell]at fi
  |some us=>
   cases fj:l.mapM (λx=>cellsOf (ρ x))with
   |none=>simp[hcell,fj]at fi
   |some es'=>
    simp[hcell,fj]at fi;subst fi;have fh:=eK (hs x y h1) hcell;have hus:us.length=size:=hz us Z';have hsz:(a.eval x).cells.size=size:=by rw[<-hus,fh.1];simp
    simp only[Jc]at hv;have hle:i*size+size<=vs.size:=by rw[hv,show i+(l.length+1)=i+1+l.length by omega,vb,vb];omega
    have uv:=nS (i*size) (a.eval x).cells.toList 0 vs (by simp[hsz];omega);generalize Hm:(a.eval x).cells.zipIdx.foldl (λcs (c,j)=>cs.setIfInBounds (i*size+j) c) vs=Ee;have hz1:Ee.toList=vs.toList.take (i*size)++(a.eval x).cells.toList++vs.toList.drop (i*size+size):=by
     rw[<-Hm,<-Oc];simpa [hsz]using uv
    have Ad:Ee.size=vs.size:=by
     have:=congrArg List.length hz1
     simp[hsz]at this;omega
    obtain⟨ct,h3,h4,h5,h6⟩:=Rm size hs r l (i+1) es' Ee h2 fj (λe he=>hz e (by simp[he])) (by rw[Ad,hv];congr 1;omega);refine⟨ct,?_,h4.trans Ad,λq hq=>?_,λi' cs w6 j c hj=>?_⟩
    ·simp only[rb,Instr.fill]
     rw[if_neg (by simp[hsz];omega),Hm];exact h3
    ·rw[h5 q (by rw[vb];omega)]
     have:Ee.toList[q]?=vs.toList[q]? := by
      rw[hz1,ud,Fa K',La,if_pos hq]
     simpa using this
    ·cases i' with
     |zero=>
      obtain rfl:us=cs:=by simpa using w6
      obtain⟨u,hu,bu⟩:=XX fh hj;have eh:j<size:=by rw[<-hus];exact(zS hj).1
      refine⟨u,?_,bu⟩;rw[kd,h5 _ (by rw[vb];omega)];have:Ee.toList[i*size+j]?=some u:=by
       rw[hz1,ud,Ba K'];simp only[Ob,dc,show min (i*size) vs.size=i*size by omega,show i*size+j-i*size=j by omega];rw[Fa (by simp[hsz];omega)];exact hu
      simpa using this
     |succ i'=>
      obtain⟨u,hu,bu⟩:=h6 i' cs (by simpa using w6) j c hj;exact⟨u,by rw[show i+(i'+1)=i+1+i' by omega];exact hu,bu⟩
 |[],_::_,_,_,_,he,_,_,_=>by simp[VY]at he
 |_::_,[],_,_,_,he,_,_,_=>by simp[VY]at he
theorem Sd{s z n cap:Nat}(w7:s<D9){es:v_}{w':World}{g:Nat}{arr:Array Value}{e:TypeId}(hz:0<z)(hn:n<=cap)(hg:w'.heap[g]?=some (.cells arr e (0,0)))(hc:cap*z<=arr.size) :
  CV B S ⟨j9 m s (some g),m.own.put s ((m.own s).new ⟨z,es⟩),w'⟩ (.row s (m.own.j6 s) z 0 n) (.slice (some ⟨g,0,none⟩) n cap):=by
 refine .ca (.one (.row s (m.own.j6 s) z 0 n _ cap ?_ hz hn (λ_=>rfl) (λb' j8=>⟨?_,.inr ⟨g,arr,e,?_,Z',hg,by simpa using hc⟩⟩) w7))
 ·show _<Own.j6 _ s
  rw[KP];simp
 ·change Own.get _ s _=some b' at j8
  rw[FV,if_pos ⟨rfl,rfl⟩]at j8;obtain rfl:(⟨z,es⟩:C2)=b':=by simpa using j8
  rfl
 ·simp[j9]
theorem xC(hm:BH B S w0 m)(s z n cap:Nat)(w7:s<D9)(es:v_)(vs:Array Value)(e:TypeId)(hz0:0<z)(hn:n<=cap)(hsz:cap*z<=vs.size)(hz:∀x∈es,x.length=z)
  (hc:∀i cs,es[i]?=some cs->∀j c,cs[j]?=some c->∃u,vs[i*z+j]?=some u/\CC B S m c u)
  (h:(execOp a.eval o).run P m.w = .ok (.value (.slice (some ⟨m.w.heap.size,0,none⟩) n cap)) (m.w.alloc (.cells vs e))) :
  CF B S w0 P o a m (.new s ⟨z,es⟩ (λt=>.row s t z 0 n)):=by
 intro K Q hK;obtain⟨h1,h2⟩:=kY hm s w7 ⟨z,es⟩ vs e hz hc;exact N7 h (hK _ ⟨j9 m s (some m.w.heap.size),m.own.put s ((m.own s).new ⟨z,es⟩),m.w.alloc (.cells vs e)⟩ rfl h1 h2 (Sd w7 hz0 hn (heap_alloc_new _ _) hsz))
theorem uY(hs:CB B S m ρ a.eval){s a7:Nat}{cp:List AL}(h:A6 P num o.op (.b8 s a7 cp)=true){es:v_}(fi:cp.mapM (λx=>cellsOf (ρ x))=some es)(hz:∀e∈es,e.length=a7) :
  ∃(vs:Array Value) (e:TypeId),(execOp a.eval o).run P m.w = .ok (.value (.slice (some ⟨m.w.heap.size,0,none⟩) es.length es.length)) (m.w.alloc (.cells vs e))/\es.length*a7<=vs.size/\0<a7/\∀i cs,es[i]?=some cs->∀j c,cs[j]?=some c->∃u,vs[i*a7+j]?=some u/\CC B S m c u:=by
 obtain⟨t,n,ps,e,i,o6,hu,hi,hsz,h0,hn,Og,ef,hzero⟩:=AkK h;have hlen:es.length=n:=by
  rw[hn];clear h ef hzero hn;induction cp generalizing es with
  |nil=>simp at fi;subst fi;rfl
  |cons y l ih=>
   simp only[fb,db,xc]at fi;cases hcell:cellsOf (ρ y)with
   |none=>simp[hcell]at fi
   |some us=>
    cases fj:l.mapM (λx=>cellsOf (ρ x))with
    |none=>simp[hcell,fj]at fi
    |some es'=>
     simp[hcell,fj]at fi;subst fi;simp[ih fj (λe he=>hz e (by simp[he]))]
 obtain⟨zc,yy⟩:∃zc:Array Value,(n*a7=0/\zc = #[])\/(¬n*a7=0/\∃z,i.zero=some z/\zc=z.cells):=by
  by_cases o7:n*a7=0
  ·exact⟨#[],.inl ⟨o7,rfl⟩⟩
  ·rcases hzero with zn|⟨z,hz1,hz2⟩
   ·simp[zn]at o7
   ·exact⟨z.cells,.inr ⟨o7,z,hz1,rfl⟩⟩
 have Ht:((Lf (n*a7)).map (zc[· % zc.size]!)).size=n*a7:=Z'
 obtain⟨ct,h3,h4,_,h6⟩:=Rm a7 hs ps.toList cp 0 es _ ef fi hz (by rw[Ht,hn];simp);have w5:(execOp a.eval o).run P m.w = .ok (.value (.slice (some ⟨m.w.heap.size,0,none⟩) n n)) (m.w.alloc (.cells ct e)):=by
  simp only[execOp,o6,Instr.buildSlice,Sem.run_bind,run_underlying hu,Result.andThen_ok,sizeOf,typeInfo,run_program,hi,Sem.run_pure,hsz];simp only[show¬(n*a7>2^24)from O',if_false,Sem.run_bind,Sem.run_pure,Result.andThen_ok];rcases yy with⟨zn,rfl⟩|⟨zn,z,hz1,rfl⟩
  ·simp only[zn,if_true,Sem.run_bind,Sem.run_pure,Result.andThen_ok,Lc]
   rw[zn]at h3;rw[h3];rfl
  ·simp only[zn,if_false,Sem.run_bind,Sem.run_pure,Result.andThen_ok,Lc,zeroValue,typeInfo,run_program,hi,hz1]
   rw[h3];rfl
 rw[hlen];exact⟨ct,e,w5,by rw[h4,Ht];exact Ma _,Nc h0,λi cs w6 j c hj=>by simpa using h6 i cs w6 j c hj⟩
theorem Ahv(hm:BH B S w0 m)(hs:CB B S m ρ a.eval){s a7:Nat}(w7:s<D9){cp:List AL}(h:A6 P num o.op (.b8 s a7 cp)=true){es:v_}(fi:cp.mapM (λx=>cellsOf (ρ x))=some es)(hz:∀e∈es,e.length=a7) :
  CF B S w0 P o a m (.new s ⟨a7,es⟩ (λt=>.row s t a7 0 es.length)):=by
 obtain⟨vs,e,h1,h2,h3,h4⟩:=uY hs h fi hz;exact xC hm s a7 _ _ w7 es vs e h3 (Ma _) h2 hz h4 h1
end
end Go.Eng

namespace Go.Eng
open Go.RowKit
section
variable {B:Nat} {S:Nat->Prop} {w0:F2} {m:M}
variable {P:Program} {num:Nat->Nat} {o:Oper} {a:Act} {ρ:AL->AV}
theorem eJ{x:AV}{v:Value}(h:CV B S m x v)(h1:x ≠ .any)(h2:∀cs,x ≠ .agg cs)(h3:∀cs,x ≠ .j4 cs)(h4:∀p f g cs,x ≠ .fn p f g cs:=by intros;simp):CC B S m x v:=by
 cases h with
 |any=>exact absurd rfl h1
 |j4 as=>exact absurd rfl (h3 as)
 |ca h=>cases h with
  |one h=>exact h
  |agg cs=>exact absurd rfl (h2 cs)
  |fn p f g cs=>exact absurd rfl (h4 p f g cs)
  |tf f g cs=>exact absurd rfl (h4 true f g cs)
theorem X1{s t i j:Nat}{v:Value}(h:CV B S m (.ptr s t i j) v):∃ad,v = .pointer (some ad)/\t<m.own.j6 s/\∀b,m.own.get s t=some b->∃g,m.ν s t=some g/\ad=⟨g,i*b.a7+j,none⟩:=by
 cases eJ h Z' Z' Z' with
 |rd h=>cases h
 |ptr s t i j ad ht h'=>exact⟨ad,rfl,ht,h'⟩
theorem lP{cs:w_}{v:Value}(h:CV B S m (.x9 cs) v):∃(b o:Nat) (u:Nat->Value) (l:Bool),v = .pointer (some ⟨b,o,none⟩)/\(cs≠[]->safe B S m l b)/\(∀j c,cs[j]?=some c->m.w.cell? ⟨b,o+j,none⟩=some (u j))/\(∀j c,cs[j]?=some c->Rd m.w (safe B S m) c (u j)):=by
 cases eJ h Z' Z' Z' with
 |rd h=>cases h
 |x9 _ b o u l h1 h2 h3=>exact⟨b,o,u,l,rfl,h1,h2,h3⟩
theorem QR{s t z off len:Nat}{v:Value}(h:CV B S m (.row s t z off len) v):∃(ad:Option Addr) (cap:Nat),v = .slice ad len cap/\t<m.own.j6 s/\0<z/\len<=cap/\(0<len->ad.isSome=true) /\
  ∀b,m.own.get s t=some b->b.a7=z/\((len=0/\cap=0)\/∃g arr e,m.ν s t=some g/\ad=some ⟨g,off*z,none⟩/\m.w.heap[g]?=some (.cells arr e (0,0))/\(off+cap)*z<=arr.size):=by
 cases eJ h Z' Z' Z' with
 |rd h=>cases h
 |row s t z off len ad cap ht hz0 jn ha h'=>exact⟨ad,cap,rfl,ht,hz0,jn,ha,h'⟩
theorem eP{l:Bool}{es:v_}{v:Value}(h:CV B S m (.sl l es) v):Rd m.w (safe B S m) (.sl l es) v:=by
 cases eJ h Z' Z' Z' with
 |rd h=>exact h
theorem aB{s t i j:Nat}{v:Value}(h:CV B S m (.ptr s t i j) v):s<D9:=by
 cases h with
 |ca h=>cases h with
  |one h=>cases h with
   |rd h=>cases h
   |ptr _ _ _ _ _ _ _ hs=>exact hs
theorem VT{s t z off len:Nat}{v:Value}(h:CV B S m (.row s t z off len) v):s<D9:=by
 cases h with
 |ca h=>cases h with
  |one h=>cases h with
   |rd h=>cases h
   |row _ _ _ _ _ _ _ _ _ _ _ _ hs=>exact hs
theorem AhY(hm:BH B S w0 m)(hs:CB B S m ρ a.eval){x':AL}(h:A6 P num o.op (.kx x')=true){s t i j:Nat}(hx:ρ x' = .ptr s t i j):CF B S w0 P o a m (.val (.ptr s t i j)):=by
 obtain⟨x,o6,h1⟩:=AkY h;have hc:=hx▸hs x x' h1;obtain⟨ad,hv,_,_⟩:=X1 hc;refine ER hm (u := .pointer (some ad)) ?_ (hv▸hc);simp[execOp,o6,hv]
theorem AhG(hm:BH B S w0 m)(hs:CB B S m ρ a.eval){x':AL}{off:Nat}(h:A6 P num o.op (.l8 x' off)=true){s t i j:Nat}(hx:ρ x' = .ptr s t i j):CF B S w0 P o a m (.val (.ptr s t i (j+off))):=by
 obtain⟨ty,x,f,fs,fd,inf,o6,h1,hu,hf,ho,hi,hsz⟩:=Tu h;obtain⟨ad,hv,ht,hb⟩:=X1 (hx▸hs x x' h1);refine ER hm (u := .pointer (some (ad.add off))) ?_ (.ca (.one (.ptr s t i (j+off) _ ht (λb j8=>?_) (aB (hx▸hs x x' h1)))))
 ·simp[execOp,o6,hv,Instr.fieldAt,run_underlying hu,hf,Instr.sureAddr,fieldPlace,sizeOf,typeInfo,hi,hsz,ho]
 ·obtain⟨g,hg,rfl⟩:=hb b j8
  exact⟨g,hg,by rw[I0];simp;omega⟩
theorem AhF(hm:BH B S w0 m)(hs:CB B S m ρ a.eval){x':AL}{off:Nat}(h:A6 P num o.op (.l8 x' off)=true){cs:w_}(hx:ρ x' = .x9 cs):CF B S w0 P o a m (.val (.x9 (cs.drop off))):=by
 obtain⟨ty,x,f,fs,fd,inf,o6,h1,hu,hf,ho,hi,hsz⟩:=Tu h;obtain⟨b,ob,u,l,hv,hR,hc,hr⟩:=lP (hx▸hs x x' h1);refine ER hm (u := .pointer (some ⟨b,ob+off,none⟩)) ?_ (.ca (.one (.x9 _ b (ob+off) (λj=>u (off+j)) l (λo7=>hR (λe=>o7 (by simp[e]))) (λj c hj=>?_) (λj c hj=>?_))))
 ·simp[execOp,o6,hv,Instr.fieldAt,run_underlying hu,hf,Instr.sureAddr,fieldPlace,sizeOf,typeInfo,hi,hsz,ho,I0]
 ·rw[Ja]at hj
  rw[Bd];exact hc _ c hj
 ·rw[Ja]at hj
  exact hr _ c hj
theorem iM{agg:Bool}{cs:w_}{v:AV}(h:M4 agg cs=some v){vs:List Value}(hc:CL B S m cs vs):CV B S m v (if agg then .agg vs.toArray else vs.getD 0 undef)/\(agg=false->vs.length=1):=by
 unfold M4 at h;cases agg with
 |true=>
  obtain rfl:AV.agg cs=v:=by simpa using h
  exact⟨.ca (.agg cs vs hc),Z'⟩
 |false=>
  simp only[zb,if_false]at h;split at h
  ·rename_i c
   obtain rfl:c=v:=by simpa using h
   obtain⟨u,hu,bu⟩:=XX hc (j:=0) (c:=c) rfl;refine⟨?_,λ_=>by rw[<-hc.1];rfl⟩;simp only[zb,if_false,sf,hu,vd];exact .ca (.one bu)
  ·cases h
theorem Am0(t:TypeId)(agg:Bool)(inf:TypeInfo)(jt:∀w,(isAgg t).run P w = .ok agg w)(hi:P.info? t=some inf)(vs:List Value)(off n:Nat)(hn:inf.size=n)(hle:off+n<=vs.length)(h1:agg=false->n=1)(w:World) :
  (Go.part t vs.toArray off).run P w = .ok (if agg then .agg ((vs.drop off).take n).toArray else((vs.drop off).take n).getD 0 undef) w:=by
 unfold Go.part;rw[Sem.run_bind,jt w];cases agg with
 |true=>simp[sizeOf,typeInfo,hi,hn,List.extract_eq_take_drop]
 |false=>
  have hlt:off<vs.length:=by have:=h1 rfl;omega
  simp[hlt,h1 rfl]
theorem AhH(hm:BH B S w0 m)(hs:CB B S m ρ a.eval){x':AL}{off n:Nat}{agg:Bool}(h:A6 P num o.op (.nj x' off n agg)=true){cs ds:w_}{v:AV}(hx:ρ x' = .agg cs)(hp:part cs off n=some ds)(hv:M4 agg ds=some v) :
  CF B S w0 P o a m (.val v):=by
 obtain⟨ty,x,f,fs,fd,inf,o6,h1,hu,hf,ho,hi,hsz,jt,h0⟩:=AkS h;obtain⟨vs,cr,s8⟩:=Ag4 (hx▸hs x x' h1);unfold Eng.part at hp;split at hp
 ·rename_i hle
  obtain rfl:(cs.drop off).take n=ds:=by simpa using hp
  obtain⟨hcv,ko⟩:=iM hv (AgE s8 off n);have hl:=s8.1;have ui:agg=false->n=1:=λe=>by have:=ko e;simp at this;omega
  refine ER hm ?_ hcv;simp only[execOp,o6,Sem.run_bind,Instr.field,run_underlying hu,Result.andThen_ok,hf,cr,asAgg,Sem.run_pure,ho];rw[Am0 fd.type agg inf jt hi vs off n hsz O' ui];rfl
 ·cases hp
theorem AhI(hm:BH B S w0 m)(hs:CB B S m ρ a.eval){len a7:Nat}{x' i':AL}(h:A6 P num o.op (.q8 (some len) a7 x' i')=true){k:IntKind}{n:Int}{s t i0 j:Nat}(w6:ρ i' = .int k n)(hx:ρ x' = .ptr s t i0 j)(h0:0<=n)(hn:n<len) :
  CF B S w0 P o a m (.val (.ptr s t i0 (j+n.toNat*a7))):=by
 obtain⟨ty,x,i,e,inf,o6,h1,h2,hi,hsz,dp⟩:=gP h;rcases dp with⟨tc,hl,hu,hlt⟩|⟨hl,_⟩
 ·obtain rfl:len=tc:=by simpa using hl
  obtain⟨ad,hv,ht,hb⟩:=X1 (hx▸hs x x' h1);have wq:=I4 (w6▸hs i i' h2);refine ER hm (u := .pointer (some (ad.add (n.toNat*a7)))) ?_ (.ca (.one (.ptr s t i0 (j+n.toNat*a7) _ ht (λb j8=>?_) (aB (hx▸hs x x' h1)))))
  ·simp[execOp,o6,hv,wq,Instr.indexAt,asIntOf,run_underlying hu,Instr.sureAddr,sizeOf,typeInfo,hi,hsz,h0,hn]
  ·obtain⟨g,hg,rfl⟩:=hb b j8
   exact⟨g,hg,by rw[I0];simp;omega⟩
 ·cases hl
theorem AhJ(hm:BH B S w0 m)(hs:CB B S m ρ a.eval){len a7:Nat}{x' i':AL}(h:A6 P num o.op (.q8 (some len) a7 x' i')=true){k:IntKind}{n:Int}{cs:w_}(w6:ρ i' = .int k n)(hx:ρ x' = .x9 cs)(h0:0<=n)(hn:n<len) :
  CF B S w0 P o a m (.val (.x9 (cs.drop (n.toNat*a7)))):=by
 obtain⟨ty,x,i,e,inf,o6,h1,h2,hi,hsz,dp⟩:=gP h;rcases dp with⟨tc,hl,hu,hlt⟩|⟨hl,_⟩
 ·obtain rfl:len=tc:=by simpa using hl
  obtain⟨b,ob,u,l,hv,hR,hc,hr⟩:=lP (hx▸hs x x' h1);have wq:=I4 (w6▸hs i i' h2);refine ER hm (u := .pointer (some ⟨b,ob+n.toNat*a7,none⟩)) ?_ (.ca (.one (.x9 _ b (ob+n.toNat*a7) (λj=>u (n.toNat*a7+j)) l (λo7=>hR (λe=>o7 (by simp[e]))) (λj c hj=>?_) (λj c hj=>?_))))
  ·simp[execOp,o6,hv,wq,Instr.indexAt,asIntOf,run_underlying hu,Instr.sureAddr,sizeOf,typeInfo,hi,hsz,h0,hn,I0]
  ·rw[Ja]at hj
   rw[Bd];exact hc _ c hj
  ·rw[Ja]at hj
   exact hr _ c hj
 ·cases hl
theorem Vr(ty e:TypeId)(inf:TypeInfo)(hu:P.underlying ty=some (.slice e))(hi:P.info? e=some inf)(ad:Addr)(len cap:Nat)(k:IntKind)(n:Int)(h0:0<=n)(hn:n<len)(w:World) :
  (Instr.indexAt ty (.slice (some ad) len cap) (.int k n)).run P w = .ok (.pointer (some (ad.add (n.toNat*inf.size)))) w:=by
 simp[Instr.indexAt,asIntOf,run_underlying hu,sizeOf,typeInfo,hi,h0,hn]
theorem AhK(hm:BH B S w0 m)(hs:CB B S m ρ a.eval){a7:Nat}{x' i':AL}(h:A6 P num o.op (.q8 none a7 x' i')=true){k:IntKind}{n:Int}{s t z off len:Nat}(w6:ρ i' = .int k n)(hx:ρ x' = .row s t z off len)(h0:0<=n)(hn:n<len)(hz:z=a7) :
  CF B S w0 P o a m (.val (.ptr s t (off+n.toNat) 0)):=by
 obtain⟨ty,x,i,e,inf,o6,h1,h2,hi,hsz,dp⟩:=gP h;rcases dp with⟨_,hl,_⟩|⟨_,hu,_⟩
 ·cases hl
 ·obtain⟨ad,cap,hv,ht,hz0,jn,ha,hb⟩:=QR (hx▸hs x x' h1)
  have wq:=I4 (w6▸hs i i' h2);obtain⟨Cv,rfl⟩:=Da.1 (ha O');refine ER hm (u := .pointer (some (Cv.add (n.toNat*a7)))) ?_ (.ca (.one (.ptr s t (off+n.toNat) 0 _ ht (λb j8=>?_) (VT (hx▸hs x x' h1)))))
  ·simp only[execOp,o6,hv,wq,Sem.run_bind]
   rw[Vr ty e inf hu hi Cv len cap k n h0 hn,hsz];rfl
  ·obtain⟨mw,dp⟩:=hb b j8
   rcases dp with⟨hl0,_⟩|⟨g,arr,e',hg,js,_,_⟩
   ·omega
   ·obtain rfl:Cv=⟨g,off*z,none⟩:=by simpa using js
    exact⟨g,hg,by rw[I0,mw,<-hz,vb];rfl⟩
theorem AhL(hm:BH B S w0 m)(hs:CB B S m ρ a.eval){a7:Nat}{x' i':AL}(h:A6 P num o.op (.q8 none a7 x' i')=true){k:IntKind}{n:Int}{l:Bool}{es:v_}{cs:w_}(w6:ρ i' = .int k n)(hx:ρ x' = .sl l es)(h0:0<=n)(hn:es[n.toNat]?=some cs)(hz:cs.length=a7) :
  CF B S w0 P o a m (.val (.x9 cs)):=by
 obtain⟨ty,x,i,e,inf,o6,h1,h2,hi,hsz,dp⟩:=gP h;rcases dp with⟨_,hl,_⟩|⟨_,hu,_⟩
 ·cases hl
 ·have jx:=eP (hx▸hs x x' h1)
  have wq:=I4 (w6▸hs i i' h2);have hlt:n.toNat<es.length:=(zS hn).1;generalize cr:a.eval x=v at jx;cases jx with
  |jb=>simp at hlt
  |sl _ _ b ob y8 cap u o7 hp hR bq gf hc hr=>
   have Hs:y8=a7:=by
    rw[<-hz];exact(gf cs (zM hn)).symm
   subst Hs;refine ER hm (u := .pointer (some ⟨b,ob+n.toNat*y8,none⟩)) ?_ (.ca (.one (.x9 _ b (ob+n.toNat*y8) (u n.toNat) l (λ_=>hR) (λj c hj=>?_) (λj c hj=>hr _ cs hn j c hj))))
   ·simp only[execOp,o6,cr,wq,Sem.run_bind]
    rw[Vr ty e inf hu hi ⟨b,ob,none⟩ es.length cap k n h0 O',hsz,I0];rfl
   ·rw[Bd]
    exact hc _ cs hn j c hj
end
end Go.Eng

namespace Go.Eng
open Go.RowKit
section
variable {B:Nat} {S:Nat->Prop} {w0:F2} {m:M}
variable {P:Program} {num:Nat->Nat} {o:Oper} {a:Act} {ρ:AL->AV}
theorem rG(t:TypeId)(agg:Bool)(n:Nat)(jt:∀w,(isAgg t).run P w = .ok agg w)(hn:if agg then∃i,P.info? t=some i/\i.size=n else n=1)(ad:Addr)(vs:List Value)(hl:vs.length=n)(w:World)
  (hc:∀q v,vs[q]?=some v->w.cell? (ad.add q)=some v):(Instr.loadAt t (.pointer (some ad))).run P w = .ok (if agg then .agg vs.toArray else vs.getD 0 undef) w:=by
 unfold Instr.loadAt loadVar;simp only[Instr.sureAddr,Sem.run_bind,Sem.run_pure,Result.andThen_ok,jt w];cases agg with
 |true=>
  simp only[if_true]at hn;obtain⟨i,hi,hs⟩:=hn;have:=run_loadCells_list (P:=P) w ad vs hc
  simp[sizeOf,typeInfo,hi,hs,<-hl,this]
 |false=>
  simp only[zb,if_false]at hn⊢;have hlt:0<vs.length:=O'
  have h0:=hc 0 vs[0] (zE hlt);have zn:w.cell? ad=some vs[0]:=by simpa [Addr.add]using h0
  simp[load,Sem.run,zn,hlt]
theorem Wt(hm:BH B S w0 m){s t i j n:Nat}(w7:s<D9){cs:w_}(h:m.own.qk s t i j n=some cs):∃b g arr e,m.own.get s t=some b/\(0<n->m.ν s t=some g/\m.w.heap[g]?=some (.cells arr e (0,0))) /\
  ∃vs:List Value,vs.length=n/\CL B S m cs vs/\∀q v,vs[q]?=some v->arr[i*b.a7+j+q]?=some v:=by
 unfold Own.qk at h;cases hb:m.own.get s t with
 |none=>simp[hb]at h
 |some b=>
  simp only[hb]at h;cases he:b.es[i]? with
  |none=>simp[he]at h
  |some ds=>
   simp only[he,part]at h;split at h
   ·rename_i hle
    obtain rfl:(ds.drop j).take n=cs:=by simpa using h
    obtain⟨hz,cg⟩:=hm.mc hb w7;cases hν:m.ν s t with
    |none=>
     rw[hν]at cg;rw[cg]at he;simp at he
    |some g=>
     rw[hν]at cg;obtain⟨hB,arr,e,hh,bu⟩:=cg;have hsz:∀q,q<n->∃u,arr[i*b.a7+j+q]?=some u:=λq hq=>by
      have hlt:j+q<ds.length:=O'
      obtain⟨u,hu,_⟩:=bu i ds he (j+q) ds[j+q] (zE hlt);exact⟨u,by rw[<-hu];congr 1;omega⟩
     refine⟨b,g,arr,e,rfl,λ_=>⟨rfl,hh⟩,(arr.toList.drop (i*b.a7+j)).take n,?_,⟨?_,?_⟩,?_⟩
     ·rw[Ob,gd]
      rcases eb n with h0|h0
      ·omega
      ·obtain⟨u,hu⟩:=hsz (n-1) O'
       have:=(sa.1 hu).1
       simp;omega
     ·rw[Ob,Ob,gd,gd]
      rcases eb n with h0|h0
      ·omega
      ·obtain⟨u,hu⟩:=hsz (n-1) O'
       have:=(sa.1 hu).1
       simp;omega
     ·intro q c v hq hv
      rw[La]at hq hv;split at hq
      ·rename_i Gw
       rw[if_pos Gw]at hv;rw[Ja]at hq hv;obtain⟨u,hu,hc⟩:=bu i ds he (j+q) c hq;have:some u=some v:=by
        rw[<-hu,<-hv];simp only[Cb];congr 1;omega
       obtain rfl:u=v:=by simpa using this
       exact hc
      ·cases hq
     ·intro q v hv
      rw[La]at hv;split at hv
      ·rw[Ja]at hv
       simpa using hv
      ·cases hv
   ·cases h
theorem VK{w:World}{g p:Nat}{arr:Array Value}{e:TypeId}(h:w.heap[g]?=some (.cells arr e (0,0))):w.cell? ⟨g,p,none⟩=arr[p]? := by
 simp[World.cell?,h]
theorem AhN(hm:BH B S w0 m)(hs:CB B S m ρ a.eval){agg:Bool}{n:Nat}{x':AL}(h:A6 P num o.op (.ld agg n x')=true){s t i j:Nat}{cs:w_}{v:AV}(hx:ρ x' = .ptr s t i j)(hl:m.own.qk s t i j n=some cs)(hv:M4 agg cs=some v) :
  CF B S w0 P o a m (.val v):=by
 obtain⟨ty,x,o6,h1,jt,hn⟩:=Tv h;obtain⟨ad,cr,ht,hb⟩:=X1 (hx▸hs x x' h1);obtain⟨b,g,arr,e,l9,hg,vs,kv,s8,gx⟩:=Wt hm (aB (hx▸hs x x' h1)) hl;obtain⟨hcv,_⟩:=iM hv s8;refine ER hm ?_ hcv;simp only[execOp,o6,Sem.run_bind,cr];rw[rG ty agg n jt hn ad vs kv m.w (λq u hq=>?_)]
 ·rfl
 ·have hlt:q<vs.length:=(zS hq).1
  obtain⟨yb,je⟩:=hg O';obtain⟨g',da,rfl⟩:=hb b l9;obtain rfl:g=g':=by rw[yb]at da;simpa using da
  rw[I0,VK je];exact gx q u hq
theorem AhM(hm:BH B S w0 m)(hs:CB B S m ρ a.eval){agg:Bool}{n:Nat}{x':AL}(h:A6 P num o.op (.ld agg n x')=true){cs ds:w_}{v:AV}(hx:ρ x' = .x9 cs)(hl:part cs 0 n=some ds)(hv:M4 agg ds=some v) :
  CF B S w0 P o a m (.val v):=by
 obtain⟨ty,x,o6,h1,jt,hn⟩:=Tv h;obtain⟨b,ob,u,l,cr,hR,hc,hr⟩:=lP (hx▸hs x x' h1);unfold Eng.part at hl;split at hl
 ·rename_i hle
  obtain rfl:(cs.drop 0).take n=ds:=by simpa using hl
  have s8:CL B S m ((cs.drop 0).take n) ((Hd n).map u):=by
   refine⟨by simp;omega,λq c v' hq ij=>?_⟩;simp only[List.drop_zero,La]at hq;split at hq
   ·rename_i Gw
    simp[Gw]at ij;subst ij;exact .rd (hr q c hq)
   ·cases hq
  obtain⟨hcv,_⟩:=iM hv s8;refine ER hm ?_ hcv;simp only[execOp,o6,Sem.run_bind,cr];rw[rG ty agg n jt hn ⟨b,ob,none⟩ ((Hd n).map u) Z' m.w (λq w' hq=>?_)]
  ·rfl
  ·have Gw:q<n:=by have:=(zS hq).1;simpa using this
   simp[Gw]at hq;subst hq;rw[I0];exact hc q cs[q] (zE O')
 ·cases hl
theorem rY{α:Type}(l:List α)(off:Nat)(vs:List α)(h:off+vs.length<=l.length)(q:Nat):(l.take off++vs++l.drop (off+vs.length))[q]?=if q<off then l[q]? else if q<off+vs.length then vs[q-off]? else l[q]? := by
 rw[ud];by_cases h1:q<off
 ·rw[if_pos h1,Fa K',La,if_pos h1]
 ·rw[if_neg h1,Ba K']
  have e1:(l.take off).length=off:=by simp;omega
  rw[e1];by_cases h2:q<off+vs.length
  ·rw[if_pos h2,Fa O']
  ·rw[if_neg h2,Ba O',Ja]
   congr 1;omega
theorem uT(hm:BH B S w0 m){g:Nat}(hB:B<=g)(arr:Array Value):DL w0.D B w0.w (m.w.setRow g arr) :=
 hm.below.trans ⟨⟨rfl,rfl,rfl,Z',λk hk=>setRow_other _ _ _ _ O'⟩,λ_=>Ma _⟩
theorem xF(hm:BH B S w0 m)(hs:CB B S m ρ a.eval){n:Nat}{x' v':AL}(h:A6 P num o.op (.st n x' v')=true){s t i j:Nat}{vs:w_}{o8:Own}(hx:ρ x' = .ptr s t i j)(hv:cellsOf (ρ v')=some vs)(hn:vs.length=n)(o4:m.own.om s t i j vs=some o8) :
  CF B S w0 P o a m (.bz (.j4 []) o8):=by
 obtain⟨ty,x,v,inf,o6,h1,h2,hi,hsz⟩:=Ak1 h;obtain⟨ad,cr,ht,hb⟩:=X1 (hx▸hs x x' h1);have s8:=eK (hs v v' h2) hv;unfold Own.om at o4;cases l9:m.own.get s t with
 |none=>simp[l9]at o4
 |some b=>
  simp only[l9]at o4;cases he:b.es[i]? with
  |none=>simp[he]at o4
  |some cs=>
   simp only[he]at o4;split at o4
   ·rename_i hle
    obtain rfl:=ga o4;have w7:=aB (hx▸hs x x' h1);obtain⟨hz,cg⟩:=hm.mc l9 w7;obtain⟨g,hg,rfl⟩:=hb b l9;rw[hg]at cg;obtain⟨hB,arr,e,hh,bu⟩:=cg;have Mj:cs.length=b.a7:=hz cs (zM he);have hlen:(a.eval v).cells.toList.length=vs.length:=s8.1.symm;have hil:i<b.es.length:=(zS he).1;have Cc:i*b.a7+j+vs.length<=arr.size:=by
     rcases eb vs.length with h0|h0
     ·rcases eb j with Dk|Dk
      ·rw[h0,Dk]
       rcases eb i with lj|lj
       ·rw[lj];omega
       ·rcases eb b.a7 with hz0|hz0
        ·rw[hz0];omega
        ·have hi1:i-1<b.es.length:=O'
         have gq:(b.es[i-1]).length=b.a7:=hz _ (Nb hi1);obtain⟨u,hu,_⟩:=bu (i-1) _ (zE hi1) (b.a7-1) _ (zE O');have:=(sa.1 hu).1
         have e1:(i-1)*b.a7+b.a7=i*b.a7:=by
          rw[<-kb];congr 1;omega
         omega
      ·obtain⟨u,hu,_⟩:=bu i cs he (j-1) cs[j-1] (zE O')
       have:=(sa.1 hu).1
       omega
     ·obtain⟨u,hu,_⟩:=bu i cs he (j+vs.length-1) cs[j+vs.length-1] (zE O')
      have:=(sa.1 hu).1
      omega
    have ko:=AgD s8;have vq:=run_storeCells_at (P:=P) g (i*b.a7+j) e (a.eval v).cells.toList 0 arr m.w hh (by rw[hlen];omega) ko;generalize nm:(arr.toList.take (i*b.a7+j+0)++(a.eval v).cells.toList++arr.toList.drop (i*b.a7+j+0+(a.eval v).cells.toList.length)).toArray=y7 at vq;have zw:∀p,y7[p]?=if p<i*b.a7+j then arr[p]? else if p<i*b.a7+j+vs.length then(a.eval v).cells.toList[p-(i*b.a7+j)]? else arr[p]? := λp=>by
     rw[<-nm];simp only[kd,qe];rw[rY _ _ _ (by rw[hlen];simpa using Cc),hlen];simp only[Cb]
    have qh:y7.size=arr.size:=by
     rw[<-nm];simp[hlen];have:=hlen
     simp at this;omega
    obtain⟨k1,k2⟩:=Yj hm s t w7 b ⟨b.a7,b.es.set i (splice cs j vs)⟩ l9 g hg arr y7 e hh rfl (λy hy=>by
      rcases List.mem_or_eq_of_mem_set hy with hy|hy
      ·exact hz y hy
      ·rw[hy,<-Mj];simp[splice];omega) qh
     (λi' fu w6 q c hq=>by
      show∃u,y7[i'*b.a7+q]?=some u/\_;change (b.es.set i (splice cs j vs))[i']?=some fu at w6;by_cases hii:i'=i
      ·subst hii
       rw[List.getElem?_set_self hil]at w6;obtain rfl:splice cs j vs=fu:=by simpa using w6
       unfold splice at hq;rw[rY _ _ _ hle]at hq;rw[zw];by_cases wu:q<j
       ·rw[if_pos wu]at hq
        rw[if_pos O'];exact bu i' cs he q c hq
       ·rw[if_neg wu]at hq
        rw[if_neg O'];by_cases Ds:q<j+vs.length
        ·rw[if_pos Ds]at hq
         rw[if_pos O'];obtain⟨u,hu,fh⟩:=XX s8 hq;exact⟨u,by rw[<-hu];congr 1;omega,fh⟩
        ·rw[if_neg Ds]at hq
         rw[if_neg O'];exact bu i' cs he q c hq
      ·rw[List.getElem?_set_ne O']at w6
       have Nr:q<b.a7:=by
        rw[<-hz fu (zM w6)];exact(zS hq).1
       obtain⟨u,hu,fh⟩:=bu i' fu w6 q c hq;refine⟨u,?_,fh⟩;rw[zw,<-hu];rcases Be hii with hlt|mf
       ·have:(i'+1)*b.a7<=i*b.a7:=zR _ hlt
        rw[kb]at this;rw[if_pos O']
       ·have:(i+1)*b.a7<=i'*b.a7:=zR _ mf
        rw[kb]at this;rw[if_neg O',if_neg O'])
     (m.w.setRow g y7) (uT hm hB y7) Z' (λk hk=>setRow_other _ _ _ _ hk) (setRow_heap _ _ _ _ _ _ hh)
    intro K Q hK;refine Xl (w':=m.w.setRow g y7) ?_ (hK undef ⟨m.ν,_,m.w.setRow g y7⟩ rfl k1 k2 Tf);have Oi:(a.eval v).cells.size=inf.size:=by rw[hsz,<-hn,<-hlen];simp
    simp only[execOp,o6,cr,Instr.storeAt,storeVar,Instr.sureAddr,Sem.run_bind,Sem.run_pure,Result.andThen_ok,sizeOf,typeInfo,run_program,hi];rw[if_neg (by simpa using Oi)];simp only[Sem.run_bind,Sem.run_pure,Result.andThen_ok,vq]
   ·cases o4
theorem AhQ(hm:BH B S w0 m)(hs:CB B S m ρ a.eval){s a7 bytes:Nat}(w7:s<D9){zero:w_}{l' c':AL}(h:A6 P num o.op (.mk s a7 bytes zero l' c')=true){kl kc:IntKind}{l c:Int}(hl:ρ l' = .int kl l)(hc:ρ c' = .int kc c)(h0:0<=l)(jn:l<=c)(hb:c*bytes<=ET)(El:c<=9223372036854775807)(hz:zero.length=a7) :
  CF B S w0 P o a m (.new s ⟨a7,List.replicate l.toNat zero⟩ (λt=>.row s t a7 0 l.toNat)):=by
 obtain⟨ty,lx,cx,e,inf,z,o6,h1,h2,hu,hi,hsz,uq,hz0,gf,o7⟩:=AkV h;have el:=I4 (hl▸hs lx l' h1);have ec:=I4 (hc▸hs cx c' h2);have s8:CL B S m zero z.cells.toList:=X6 gf;have hzs:z.cells.size=a7:=by rw[<-hz,s8.1];simp
 refine xC hm s a7 l.toNat c.toNat w7 _ (madeCells z.cells (c.toNat*inf.size)) e (Nc o7) O' (by rw[size_madeCells,hsz];exact Ma _) (λx hx=>by rw[(List.mem_replicate.1 hx).2,hz]) (λi cs w6 j c1 hj=>?_) ?_
 ·rw[List.getElem?_replicate]at w6
  split at w6
  ·rename_i hil
   obtain rfl:zero=cs:=by simpa using w6
   obtain⟨u,hu',fh⟩:=XX s8 hj;refine⟨u,?_,fh⟩;have eh:j<a7:=by rw[<-hz];exact(zS hj).1
   have hlt:i*a7+j<c.toNat*inf.size:=by
    rw[hsz];have h3:(i+1)*a7<=c.toNat*a7:=zR _ O';rw[kb]at h3;omega
   have Bx:(i*a7+j)%z.cells.size=j:=by rw[hzs,re,Dd,rf eh]
   have uc:z.cells[j]?=some u:=by simpa using hu'
   have hjs:j<z.cells.size:=(sa.1 uc).1;have oz:z.cells[j]=u:=(sa.1 uc).2;simp[madeCells,hlt,Bx,hjs,oz]
  ·cases w6
 ·have:=run_make (P:=P) m.w ty e inf z hu hi hz0 kl kc l c h0 jn (by rw[uq,Int.mul_comm];simp only[ET]at hb;omega) El
  simp only[execOp,o6,el,ec,Sem.run_bind,this,Result.andThen_ok,Sem.run_pure]
theorem AhE(hm:BH B S w0 m)(hs:CB B S m ρ a.eval){x':AL}{i:Nat}(h:A6 P num o.op (.ext x' i)=true){vs:w_}{v:AV}(hx:ρ x' = .j4 vs)(hv:vs[i]?=some v):CF B S w0 P o a m (.val v):=by
 obtain⟨x,o6,h1⟩:=AkR h;obtain⟨us,cr,hl,hc⟩:=lR (hx▸hs x x' h1);have hlt:i<us.length:=by rw[<-hl];exact(zS hv).1
 refine ER hm (u:=us[i]) ?_ (.ca (hc i v us[i] hv (zE hlt)));simp[execOp,o6,cr,Instr.extract,hlt]
theorem AhO(hm:BH B S w0 m)(hs:CB B S m ρ a.eval){x':AL}(h:A6 P num o.op (.len x')=true){n:Nat}(hx:Q4 (ρ x')=some n):CF B S w0 P o a m (.val (.int .i64 n)):=by
 obtain⟨x,t,e,o6,h1,hu⟩:=AkU h;have hcv:=hs x x' h1;obtain⟨ad,cap,cr⟩:∃ad cap,a.eval x = .slice ad n cap:=by
  generalize ρ x'=av at*;cases av with
  |sl l es=>
   have hr:=eP hcv;simp only[Q4,za]at hx;subst hx;generalize a.eval x=v at*;cases hr with
   |jb=>exact⟨_,_,rfl⟩
   |sl=>exact⟨_,_,rfl⟩
  |row s t z off len=>
   obtain⟨ad,cap,hv,_⟩:=QR hcv;simp only[Q4,za]at hx;subst hx;exact⟨ad,cap,hv⟩
  |nil=>
   simp only[Q4,za]at hx;subst hx;exact⟨_,_,VS hcv⟩
  |_=>simp[Q4]at hx
 refine ER hm (u := .int .i64 n) ?_ (SX _ _);simp[execOp,o6,resolve,invoke,builtin,cr,Builtin.len_,run_underlying hu,goInt]
theorem R3(hs:CB B S m ρ a.eval):∀{xs:List Operand}{ys:List AL},EH xs ys=true->xs.length=ys.length/\∀(j:Nat)(x:Operand)(y:AL),xs[j]?=some x->ys[j]?=some y->CV B S m (ρ y) (a.eval x)
 |[],[],_=>⟨rfl,λj x y h=>by simp at h⟩
 |x::r,y::l,h=>by
  simp only[EH,ya]at h;obtain⟨jj,gi⟩:=R3 hs h.2;refine⟨by simp[jj],λj x' y' hx hy=>?_⟩;cases j with
  |zero=>simp at hx hy;subst hx hy;exact hs _ _ h.1
  |succ j=>exact gi j x' y' (by simpa using hx) (by simpa using hy)
 |[],_::_,h=>by simp[EH]at h
 |_::_,[],h=>by simp[EH]at h
theorem Vs(mx:Bool)(hs:CB B S m ρ a.eval)(w:World):∀(xs:List Operand)(ys:List AL)(v:AV)(u:Value)(r:AV),EH xs ys=true->CV B S m v u->MS mx v (ys.map ρ)=some r->(∃k n,v = .int k n)->∃k n,r = .int k n /\
  ((xs.map a.eval).foldlM (if mx then Builtin.max2 else Builtin.min2) u).run P w = .ok (.int k n) w
 |[],[],v,u,r,_,hc,hm,⟨k,n,hv⟩=>by
  simp only[List.map_nil,MS,za]at hm;subst hm hv;obtain rfl:=I4 hc;exact⟨k,n,rfl,Z'⟩
 |x::xr,y::yr,v,u,r,he,hc,hm,⟨k,n,hv⟩=>by
  simp only[EH,ya]at he;simp only[rb,MS]at hm;have hx:=hs x y he.1;subst hv;obtain rfl:=I4 hc;cases hy:ρ y with
  |int k' n'=>
   rw[hy]at hx hm;have hxe:=I4 hx;simp only[Q7]at hm;obtain⟨k2,n2,rfl,h2⟩:=Vs mx hs w xr yr _ (.int k (if mx then(if n'>n then n' else n)else(if n'<n then n' else n))) r he.2 (SX _ _) hm ⟨_,_,rfl⟩;refine⟨k2,n2,rfl,?_⟩;simp only[rb,List.foldlM_cons,Sem.run_bind,hxe];cases mx
   ·simpa [Builtin.min2]using h2
   ·simpa [Builtin.max2]using h2
  |_=>rw[hy]at hm;simp[Q7]at hm
 |[],_::_,_,_,_,he,_,_,_=>by simp[EH]at he
 |_::_,[],_,_,_,he,_,_,_=>by simp[EH]at he
theorem AhU(hm:BH B S w0 m)(hs:CB B S m ρ a.eval){mx:Bool}{xs':List AL}(h:A6 P num o.op (.mm mx xs')=true){v r:AV}{l:w_}(hx:xs'.map ρ=v::l)(hv:MS mx v l=some r)(hi:∃k n,v = .int k n):CF B S w0 P o a m (.val r):=by
 obtain⟨xs,ts,o6,he⟩:=Tw h;cases xs' with
 |nil=>simp at hx
 |cons y yr=>
  simp only[rb,qf]at hx;obtain⟨rfl,rfl⟩:=hx;obtain⟨xl⟩:=xs;cases xl with
  |nil=>simp[EH]at he
  |cons x xr=>
   simp only[EH,ya]at he;obtain⟨k,n,rfl,w5⟩:=Vs (P:=P) mx hs m.w xr yr (ρ y) (a.eval x) r he.2 (hs x y he.1) hv hi;refine ER hm (u := .int k n) ?_ (SX _ _);cases mx
   ·simp only[execOp,o6,resolve,invoke,builtin,Builtin.min_,Sem.run_bind,Sem.run_pure,Result.andThen_ok]at w5⊢
    simp at w5⊢;rw[w5];rfl
   ·simp only[execOp,o6,resolve,invoke,builtin,Builtin.max_,Sem.run_bind,Sem.run_pure,Result.andThen_ok]at w5⊢
    simp at w5⊢;rw[w5];rfl
end
end Go.Eng

namespace Go.Eng
open Go.RowKit
section
variable {B:Nat} {S:Nat->Prop} {w0:F2} {m:M}
variable {P:Program} {num:Nat->Nat} {o:Oper} {a:Act} {ρ:AL->AV}
def I1(ρ:AL->AV)(d:Nat):Option AL->Option Int
 |none=>some d
 |some y=>match ρ y with |.int _ n=>some n|_=>none
theorem jH(ty e:TypeId)(inf:TypeInfo)(hu:P.underlying ty=some (.slice e))(hi:P.info? e=some inf)(hs:CB B S m ρ a.eval){lo w6:Option Operand}{pf Ga:Option AL}(w7:OK lo pf=true)(Jh:OK w6 Ga=true)
  (ad:Option Addr) (len cap:Nat) (l h:Int) (hl:I1 ρ 0 pf=some l) (hh:I1 ρ len Ga=some h) (h0:0<=l) (hlh:l<=h) (hhl:h<=len) (jn:len<=cap) (w:World) :
  (Instr.sliceAt ty (.slice ad len cap) (lo.map a.eval) (w6.map a.eval) none).run P w = .ok (.slice (if cap=l.toNat then ad else ad.map (·.add (l.toNat*inf.size))) (h.toNat-l.toNat) (cap-l.toNat)) w:=by
 have wq:∀{x:Option Operand}{y:Option AL}{d:Nat}{n:Int},OK x y=true->I1 ρ d y=some n->(x=none/\y=none/\n=d)\/∃x' k,x=some x'/\a.eval x' = .int k n:=by
  intro x y d n ue hb;cases x with
  |none=>cases y with
   |none=>simp[I1]at hb;exact .inl ⟨rfl,rfl,hb.symm⟩
   |some y=>simp[OK]at ue
  |some x=>cases y with
   |none=>simp[OK]at ue
   |some y=>
    simp only[OK]at ue;simp only[I1]at hb;cases hy:ρ y with
    |int k q=>
     rw[hy]at hb;simp only[za]at hb;subst hb;exact .inr ⟨x,k,rfl,I4 (hy▸hs x y ue)⟩
    |_=>rw[hy]at hb;cases hb
 have zx:h<=(cap:Int):=O'
 unfold Instr.sliceAt Instr.slice Instr.sliceBounds;rcases wq w7 hl with⟨rfl,_,rfl⟩|⟨x1,k1,rfl,e1⟩<;>rcases wq Jh hh with⟨rfl,_,rfl⟩|⟨x2,k2,rfl,e2⟩
 ·simp[run_underlying hu,sizeOf,typeInfo,hi]
 ·have ou:=run_sliceBound (P:=P) w k2 h cap .sliceAcap O' zx
  simp[run_underlying hu,sizeOf,typeInfo,hi,e2,ou]
 ·have v8:=run_sliceBound (P:=P) w k1 l len .sliceB h0 O'
  simp[run_underlying hu,sizeOf,typeInfo,hi,e1,v8]
 ·have ou:=run_sliceBound (P:=P) w k2 h cap .sliceAcap O' zx
  have v8:=run_sliceBound (P:=P) w k1 l h.toNat .sliceB h0 O';simp[run_underlying hu,sizeOf,typeInfo,hi,e1,e2,ou,v8]
theorem Ah0(hm:BH B S w0 m)(hs:CB B S m ρ a.eval){a7:Nat}{x':AL}{pf w6:Option AL}(h:A6 P num o.op (.ik a7 x' pf w6)=true)(hx:ρ x' = .nil)(hl:I1 ρ 0 pf=some 0)(hh:I1 ρ 0 w6=some 0):CF B S w0 P o a m (.val .nil):=by
 obtain⟨ty,x,lo,va,e,inf,o6,h1,h2,h3,hu,hi,hsz,o7⟩:=oN h;have cr:=VS (hx▸hs x x' h1);have w5:=jH ty e inf hu hi hs h2 h3 none 0 0 0 0 hl hh O' O' O' O' m.w;refine ER hm (u := .slice none 0 0) ?_ (.ca (.one .nil));simp only[execOp,o6,cr,Sem.run_bind,sc,w5];rfl
theorem Ah1(hm:BH B S w0 m)(hs:CB B S m ρ a.eval){a7:Nat}{x':AL}{pf w6:Option AL}(h:A6 P num o.op (.ik a7 x' pf w6)=true){s t z off len:Nat}{l u:Int}(hx:ρ x' = .row s t z off len)(hl:I1 ρ 0 pf=some l)(hh:I1 ρ len w6=some u)(h0:0<=l)(yf:l<=u)(oz:u<=len)(hz:z=a7) :
  CF B S w0 P o a m (.val (.row s t z (off+l.toNat) (u.toNat-l.toNat))):=by
 obtain⟨ty,x,lo,va,e,inf,o6,h1,h2,h3,hu,hi,hsz,o7⟩:=oN h;obtain⟨ad,cap,cr,ht,hz0,jn,ha,hb⟩:=QR (hx▸hs x x' h1);have w5:=jH ty e inf hu hi hs h2 h3 ad len cap l u hl hh h0 yf oz jn m.w;refine ER hm ?_ (.ca (.one (.row s t z (off+l.toNat) (u.toNat-l.toNat) (if cap=l.toNat then ad else ad.map (·.add (l.toNat*inf.size))) (cap-l.toNat) ht hz0 O' (λhp=>?_) (λb j8=>?_) (VT (hx▸hs x x' h1)))))
 ·simp only[execOp,o6,cr,Sem.run_bind,sc,w5]
  rfl
 ·rw[if_neg O']
  obtain⟨Cv,rfl⟩:=Da.1 (ha O');rfl
 ·obtain⟨mw,dp⟩:=hb b j8
  refine⟨mw,?_⟩;rcases dp with⟨hl0,dz⟩|⟨g,arr,e',hg,js,Jg,hle⟩
  ·exact .inl ⟨O',O'⟩
  ·by_cases hc:cap=l.toNat
   ·exact .inl ⟨O',O'⟩
   ·refine .inr ⟨g,arr,e',hg,?_,Jg,?_⟩
    ·rw[if_neg hc,js,hsz,hz]
     simp only[Aa,I0,vb]
    ·rw[show off+l.toNat+(cap-l.toNat)=off+cap by omega]
     exact hle
theorem Ah2(hm:BH B S w0 m)(hs:CB B S m ρ a.eval){a7:Nat}{x':AL}{pf w6:Option AL}(h:A6 P num o.op (.ik a7 x' pf w6)=true){lt:Bool}{es:v_}{l u:Int}(hx:ρ x' = .sl lt es)(hl:I1 ρ 0 pf=some l)(hh:I1 ρ es.length w6=some u)(h0:0<=l)(yf:l<=u)(oz:u<=es.length)(hz:∀e∈es,e.length=a7) :
  CF B S w0 P o a m (.val (.sl lt ((es.take u.toNat).drop l.toNat))):=by
 obtain⟨ty,x,lo,va,e,inf,o6,h1,h2,h3,hu,hi,hsz,o7⟩:=oN h;have jx:=eP (hx▸hs x x' h1);generalize cr:a.eval x=v at jx;cases jx with
 |jb _ ad cap=>
  have w5:=jH ty e inf hu hi hs h2 h3 ad 0 cap l u hl hh h0 yf (by simpa using oz) O' m.w;simp only[List.length_nil]at oz;rw[show(([]:v_).take u.toNat).drop l.toNat=[]by simp];refine ER hm (u := .slice (if cap=l.toNat then ad else ad.map (·.add (l.toNat*inf.size))) 0 (cap-l.toNat)) ?_ (.ca (.one (.rd (.jb lt _ _))));simp only[execOp,o6,cr,Sem.run_bind,sc,w5];rw[show u.toNat-l.toNat=0 by omega];rfl
 |sl _ _ b ob y8 cap uu vh hp hR bq gf hc hr=>
  have w5:=jH ty e inf hu hi hs h2 h3 (some ⟨b,ob,none⟩) es.length cap l u hl hh h0 yf oz bq m.w;have Hs:y8=a7:=by
   cases es with
   |nil=>exact absurd rfl vh
   |cons q r=>rw[<-gf q Z',hz q Z']
  subst Hs;by_cases hz0:u.toNat-l.toNat=0
  ·have:(es.take u.toNat).drop l.toNat=[]:=by
    apply ea;simp;omega
   rw[this];refine ER hm (u := .slice (if cap=l.toNat then some ⟨b,ob,none⟩else(some (⟨b,ob,none⟩:Addr)).map (·.add (l.toNat*inf.size))) 0 (cap-l.toNat)) ?_ (.ca (.one (.rd (Rd.jb lt _ _))));simp only[execOp,o6,cr,Sem.run_bind,sc,w5];rw[hz0];rfl
  ·have hlen:((es.take u.toNat).drop l.toNat).length=u.toNat-l.toNat:=by simp;omega
   have l9:∀i,i<u.toNat-l.toNat->((es.take u.toNat).drop l.toNat)[i]?=es[l.toNat+i]? := λi w6=>by
    rw[Ja,La,if_pos O']
   refine ER hm (u := .slice (some ⟨b,ob+l.toNat*y8,none⟩) ((es.take u.toNat).drop l.toNat).length (cap-l.toNat)) ?_ (.ca (.one (.rd (.sl lt _ b (ob+l.toNat*y8) y8 (cap-l.toNat) (λi j=>uu (l.toNat+i) j) (λe=>hz0 (by rw[<-hlen,e];rfl)) hp hR (by rw[hlen];omega) (λq hq=>gf q (jc (me hq))) (λi q w6 j c hj=>?_) (λi q w6 j c hj=>?_)))))
   ·simp only[execOp,o6,cr,Sem.run_bind,sc,w5]
    rw[if_neg O',hlen,hsz];simp only[Aa,I0];rfl
   ·have hil:i<u.toNat-l.toNat:=by rw[<-hlen];exact(zS w6).1
    rw[l9 i hil]at w6;rw[show ob+l.toNat*y8+(i*y8+j)=ob+((l.toNat+i)*y8+j)by rw[vb];omega];exact hc _ q w6 j c hj
   ·have hil:i<u.toNat-l.toNat:=by rw[<-hlen];exact(zS w6).1
    rw[l9 i hil]at w6;exact hr _ q w6 j c hj
structure ZN(B:Nat)(S:Nat->Prop)(m:M)(a7:Nat)(ys:v_)(ad:Option Addr)(news:List Value):Prop where
 len:news.length=ys.length*a7
 cells:∀b,ad=some b->∀j v,news[j]?=some v->m.w.cell? (b.add j)=some v
 some_:ys≠[]->ad.isSome=true
 rel:∀i cs,ys[i]?=some cs->∀j c,cs[j]?=some c->∃u,news[i*a7+j]?=some u/\CC B S m c u
theorem wT(a7 i j:Nat)(h:j<a7):(i*a7+j)/a7=i/\(i*a7+j)%a7=j:=by
 constructor
 ·rw[re,Nat.add_mul_div_right _ _ O',Nat.div_eq_of_lt h,qb]
 ·rw[re,Dd,rf h]
theorem mM(hm:BH B S w0 m){av:AV}{v:Value}(hc:CV B S m av v){ys:v_}(he:EX m.own av=some ys){a7:Nat}(hz:∀e∈ys,e.length=a7)(h0:0<a7) :
  ∃ad cap news,v = .slice ad ys.length cap/\ZN B S m a7 ys ad news:=by
 cases av with
 |sl l es=>
  simp only[EX,za]at he;subst he;cases eP hc with
  |jb _ ad cap=>exact⟨ad,cap,[],rfl,Z',λb _ j v hv=>by simp at hv,λh=>absurd rfl h,λi cs hi=>by simp at hi⟩
  |sl _ _ b ob y8 cap uu vh hp hR bq gf s8 hr=>
   have Hs:y8=a7:=by
    cases es with
    |nil=>exact absurd rfl vh
    |cons q r=>rw[<-gf q Z',hz q Z']
   subst Hs;refine⟨some ⟨b,ob,none⟩,cap,(Hd (es.length*y8)).map (λk=>uu (k/y8) (k%y8)),rfl,Z',λb' j8 j v hv=>?_,λ_=>rfl,λi cs hi j c hj=>?_⟩
   ·obtain rfl:(⟨b,ob,none⟩:Addr)=b':=by simpa using j8
    rw[Oa]at hv;have eh:j<es.length*y8:=by
     rcases Db j (es.length*y8)with h|h
     ·exact h
     ·rw[List.getElem?_eq_none (by simpa using h)]at hv;cases hv
    rw[Bc eh]at hv;simp only[Aa,za]at hv;subst hv;have hd:j/y8<es.length:=Fc (by rw[Pc];exact eh);have Nh:j%y8<y8:=Fe _ h0;have ef:(es[j/y8]).length=y8:=gf _ (Nb hd);have:=s8 (j/y8) _ (zE hd) (j%y8) _ (zE (by rw[ef];exact Nh))
    rw[I0,<-this];congr 2;have:=Md j y8
    rw[Pc]at this;omega
   ·have eh:j<y8:=by rw[<-gf cs (zM hi)];exact(zS hj).1
    have hil:i<es.length:=(zS hi).1;have hlt:i*y8+j<es.length*y8:=by
     have:(i+1)*y8<=es.length*y8:=zR _ hil
     rw[kb]at this;omega
    obtain⟨e1,e2⟩:=wT y8 i j eh;refine⟨uu i j,?_,.rd (hr i cs hi j c hj)⟩;rw[Oa,Bc hlt];simp[e1,e2]
 |nil=>
  simp only[EX,za]at he;subst he;exact⟨none,0,[],VS hc,Z',λb hb=>(by cases hb),λh=>absurd rfl h,λi cs hi=>by simp at hi⟩
 |row s t z off len=>
  obtain⟨ad,cap,hv,ht,hz0,jn,ha,hb⟩:=QR hc;simp only[EX]at he;cases l9:m.own.get s t with
  |none=>simp[l9]at he
  |some b=>
   simp only[l9]at he;split at he
   ·rename_i hle
    obtain⟨hle,mw⟩:=hle;obtain rfl:=ga he;have hyl:((b.es.drop off).take len).length=len:=by simp;omega
    obtain⟨_,dp⟩:=hb b l9;by_cases hl0:len=0
    ·subst hl0
     refine⟨ad,cap,[],by simpa using hv,Z',λb _ j v hv=>by simp at hv,λh=>absurd Z' h,λi cs hi=>by simp at hi⟩
    ·rcases dp with⟨h1,_⟩|⟨g,arr,e',hg,js,Jg,ABf⟩
     ·exact absurd h1 hl0
     ·obtain⟨gf,cg⟩:=hm.mc l9 (VT hc)
      rw[hg]at cg;obtain⟨hB,mb,e2,qz,bu⟩:=cg;rw[Jg]at qz;obtain⟨rfl,rfl⟩:arr=mb/\e'=e2:=by simpa using qz
      have hez:a7=z:=by
       have hlt:off<b.es.length:=O'
       have h1:b.es[off]∈(b.es.drop off).take len:=by
        have:((b.es.drop off).take len)[0]?=some b.es[off]:=by
         rw[La,if_pos O',Ja];simp[hlt]
        exact zM this
       rw[<-hz _ h1,gf _ (Nb hlt),mw]
      subst hez;have hsz:off*a7+len*a7<=arr.size:=by
       have:(off+len)*a7<=(off+cap)*a7:=zR _ O'
       rw[vb]at this;omega
      refine⟨ad,cap,(arr.toList.drop (off*a7)).take (len*a7),by rw[hyl];exact hv,by rw[hyl];simp;omega,λb' j8 j v ij=>?_,λ_=>by rw[js];rfl,λi cs hi j c hj=>?_⟩
      ·rw[js]at j8
       obtain rfl:(⟨g,off*a7,none⟩:Addr)=b':=by simpa using j8
       rw[La]at ij;split at ij
       ·rw[Ja]at ij
        rw[I0,VK Jg];simpa using ij
       ·cases ij
      ·rw[La]at hi
       split at hi
       ·rename_i hil
        rw[Ja]at hi;have eh:j<a7:=by rw[<-mw,<-gf cs (zM hi)];exact(zS hj).1
        obtain⟨u,hu,fh⟩:=bu (off+i) cs hi j c hj;refine⟨u,?_,fh⟩;have hlt:i*a7+j<len*a7:=by
         have:(i+1)*a7<=len*a7:=zR _ hil
         rw[kb]at this;omega
        rw[La,if_pos hlt,Ja,<-hu,mw];simp only[Cb];congr 1;rw[vb];omega
       ·cases hi
   ·cases he
 |x7 v'=>
  cases v' with
  |bool b=>
   simp only[EX,za]at he;subst he;obtain⟨ad,cap,hv,_⟩:=wC hc;exact⟨ad,cap,[],hv,Z',λb' j8 j v ij=>by simp at ij,λh=>absurd rfl h,λi cs hi=>by simp at hi⟩
  |_=>simp[EX]at he
 |_=>simp[EX]at he
theorem ZN.one{a7:Nat}{ys:v_}{ad:Option Addr}{news:List Value}(h:ZN B S m a7 ys ad news)(h0:0<a7)(hz:∀e∈ys,e.length=a7):∀u∈news,u.oneCell'=true:=by
 intro u hu;obtain⟨k,hk,rfl⟩:=Dc hu;rw[h.len]at hk;have hd:k/a7<ys.length:=Fc (by rw[Pc];exact hk);have Nh:k%a7<a7:=Fe _ h0;have ef:(ys[k/a7]).length=a7:=hz _ (Nb hd);obtain⟨u',hu',hc⟩:=h.rel (k/a7) _ (zE hd) (k%a7) _ (zE (by rw[ef];exact Nh));have jm:k/a7*a7+k%a7=k:=by
  have:=Md k a7
  rw[Pc]at this;exact this
 rw[jm]at hu';obtain rfl:news[k]=u':=by
  have:=(zS hu').2
  exact this
 exact hc.one
theorem ZN.src{a7:Nat}{ys:v_}{ad:Option Addr}{news:List Value}(h:ZN B S m a7 ys ad news)(h0:0<a7)(hz:∀e∈ys,e.length=a7){t e:TypeId}(hu:P.underlying t=some (.slice e))(cap:Nat):Src P a7 t (.slice ad ys.length cap) ys.length news m.w:=by
 cases ad with
 |none=>
  have pe:ys=[]:=by
   cases ys with
   |nil=>rfl
   |cons y r=>exact absurd (h.some_ Z') Z'
  subst pe;have hn:news=[]:=ea (by simpa using h.len);subst hn;exact Src.ofNil m.w hu cap
 |some b=>exact Src.ofSlice m.w hu b ys.length cap news h.len (h.cells b rfl) (h.one h0 hz)
theorem Al5(arr:Array Value)(off:Nat)(news:List Value)(h:off+news.length<=arr.size)(p:Nat):(arr.toList.take off++news++arr.toList.drop (off+news.length)).toArray[p]?=if p<off then arr[p]? else if p<off+news.length then news[p-off]? else arr[p]? := by
 simp only[qe];rw[rY _ _ _ (by simpa using h)];simp only[Cb]
theorem AmS(t tx e ex:TypeId)(i:TypeInfo)(ht:P.underlying t=some (.slice e))(hx:P.underlying tx=some (.slice ex))(hi:P.info? e=some i)(g off qm te:Nat)(x:Value)(n:Nat)(news:List Value)(w:World)(hs:Src P i.size tx x n news w)(jy:qm+n<=te)(arr:Array Value)(e':TypeId)
  (hh:w.heap[g]?=some (.cells arr e' (0,0))) (hsz:off+qm*i.size+news.length<=arr.size) (ty:TypeId) :
  (Builtin.append_ #[t,tx] ty #[.slice (some ⟨g,off,none⟩) qm te,x]).run P w = .ok (.slice (some ⟨g,off,none⟩) (qm+n) te) (w.setRow g (arr.toList.take (off+qm*i.size)++news++arr.toList.drop (off+qm*i.size+news.length)).toArray):=by
 have o4:=run_storeCells_at (P:=P) g (off+qm*i.size) e' news 0 arr w hh O' hs.one;simp only[kd]at o4;simp[Builtin.append_,run_underlying ht,run_underlying hx,sizeOf,typeInfo,hi,hs.len,jy,hs.cells,I0,o4]
theorem Vp(t tx e ex:TypeId)(i:TypeInfo)(ht:P.underlying t=some (.slice e))(hx:P.underlying tx=some (.slice ex))(hi:P.info? e=some i)(ad:Option Addr)(te:Nat)(x:Value)(w:World)(hs:Src P i.size tx x 0 [] w)(ty:TypeId) :
  (Builtin.append_ #[t,tx] ty #[.slice ad 0 te,x]).run P w = .ok (.slice ad 0 te) w:=by
 have hc:=hs.cells;cases ad<;>simp[Builtin.append_,run_underlying ht,run_underlying hx,sizeOf,typeInfo,hi,hs.len,hc,storeCells]
theorem cA{x y:Operand}{t tx:TypeId}(o6:o.op = .call ⟨.builtin .append,#[x,y],#[t,tx]⟩){u:Value}{w w':World}(h:(Builtin.append_ #[t,tx] o.type #[a.eval x,a.eval y]).run P w = .ok u w'):(execOp a.eval o).run P w = .ok (.value u) w':=by
 simp[execOp,o6,resolve,invoke,builtin,h]
theorem Aki(fc news:List Value)(z:Array Value)(k p:Nat)(h:p<fc.length+news.length):((fc++news).toArray++Builtin.zeroCells z k)[p]?=(fc++news)[p]? := by
 rw[Ld (by simpa using h)];simp
theorem AmI{a7 len:Nat}{xs ys:v_}{fc news:List Value}(Ov:xs.length=len)(lk:fc.length=len*a7)(hzx:∀e∈xs,e.length=a7)
  (hx:∀i cs,xs[i]?=some cs->∀j c,cs[j]?=some c->∃u,fc[i*a7+j]?=some u/\CC B S m c u)
  (hy:∀i cs,ys[i]?=some cs->∀j c,cs[j]?=some c->∃u,news[i*a7+j]?=some u/\CC B S m c u) :
  ∀i cs,(xs++ys)[i]?=some cs->∀j c,cs[j]?=some c->∃u,(fc++news)[i*a7+j]?=some u/\CC B S m c u:=by
 intro i cs hi j c hj;by_cases hil:i<len
 ·rw[Fa O']at hi
  obtain⟨u,hu,hc⟩:=hx i cs hi j c hj;exact⟨u,by rw[Fa (by have:=(zS hu).1;omega)];exact hu,hc⟩
 ·rw[Ba O',Ov]at hi
  obtain⟨u,hu,hc⟩:=hy (i-len) cs hi j c hj;refine⟨u,?_,hc⟩;have e1:i*a7=len*a7+(i-len)*a7:=by rw[<-vb];congr 1;omega
  rw[Ba O',<-hu];congr 1;omega
theorem Tl{s z n cap:Nat}(w7:s<D9){es:v_}{w':World}{g t:Nat}{arr:Array Value}{e:TypeId}(hz:0<z)(hn:n<=cap)(hg:w'.heap[g]?=some (.cells arr e (0,0)))(hc:cap*z<=arr.size) :
  CV B S ⟨j9 m s (some g),m.own.put s (((m.own s).q9 t none).new ⟨z,es⟩),w'⟩ (.row s (m.own.j6 s) z 0 n) (.slice (some ⟨g,0,none⟩) n cap):=by
 refine .ca (.one (.row s (m.own.j6 s) z 0 n _ cap ?_ hz hn (λ_=>rfl) (λb' j8=>⟨?_,.inr ⟨g,arr,e,?_,Z',hg,by simpa using hc⟩⟩) w7))
 ·show _<Own.j6 _ s
  rw[eH];simp
 ·change Own.get _ s _=some b' at j8
  rw[SH,if_pos ⟨rfl,rfl⟩]at j8;obtain rfl:(⟨z,es⟩:C2)=b':=by simpa using j8
  rfl
 ·simp[j9]
theorem Agj(hm:BH B S w0 m)(ob:Obj):DL w0.D B w0.w (m.w.drew.alloc ob):=hm.below.drew.alloc (by simpa using hm.size) ob
theorem mE(hm:BH B S w0 m)(hs:CB B S m ρ a.eval){s a7 bytes:Nat}{x' y':AL}(h:A6 P num o.op (.app s a7 bytes x' y')=true){ys:v_}(hy:EX m.own (ρ y')=some ys)(hz:∀e∈ys,e.length=a7){s' t len:Nat}{b:C2}(hx:ρ x' = .row s' t a7 0 len)(l9:m.own.get s' t=some b)
  (mw:b.a7=a7) (hle:len<=b.es.length) (jy:(len+ys.length)*bytes<=ET) (El:len+ys.length<=9223372036854775807) :
  CF B S w0 P o a m (.bz (.row s' (m.own.j6 s') a7 0 (len+ys.length)) (m.own.put s' (((m.own s').q9 t none).new ⟨a7,b.es.take len++ys⟩))):=by
 obtain⟨x,y,ty,e,i,z,tx,ex,o6,h1,h2,hu,hi,hsz,uq,hz0,gf,o7,Du⟩:=Qa h;have h0:0<a7:=Nc o7;obtain⟨ad,cap,cr,ht,_,jn,ha,hb⟩:=QR (hx▸hs x x' h1);obtain⟨Av,lf,news,sz,ef⟩:=mM hm (hs y y' h2) hy hz h0;have oe:Src P i.size tx (.slice Av ys.length lf) ys.length news m.w:=by rw[hsz];exact ef.src h0 hz Du lf
 have w7:=VT (hx▸hs x x' h1);obtain⟨mu,cg⟩:=hm.mc l9 w7;obtain⟨_,dp⟩:=hb b l9;have de:(b.es.take len).length=len:=by simp;omega
 have Aj:∀q∈b.es.take len++ys,q.length=a7:=λq hq=>by
  rcases Ca.1 hq with hq|hq
  ·rw[<-mw];exact mu q (jc hq)
  ·exact hz q hq
 intro K Q hK;by_cases xy:len+ys.length<=cap
 ·rcases dp with⟨hl0,dz⟩|⟨g,arr,e',hg,js,hh,Ml⟩
  ·have pe:ys=[]:=ea O'
   subst pe;subst hl0 dz;have oa:news=[]:=ea (by simpa using ef.len);subst oa;have w5:=Vp ty tx e ex i hu Du hi ad 0 (.slice Av 0 lf) m.w (by simpa using oe) o.type;obtain⟨k1,k2⟩:=pM hm s' t w7 b ⟨a7,b.es.take 0++[]⟩ l9 none m.w hm.below (Ma _) (λ_ _ _=>rfl) Z' Z' Z';refine N7 (cA o6 (by rw[cr,sz];simpa using w5)) (hK _ ⟨j9 m s' none,m.own.put s' (((m.own s').q9 t none).new ⟨a7,b.es.take 0++[]⟩),m.w⟩ rfl k1 k2 (.ca (.one (.row s' (m.own.j6 s') a7 0 0 ad 0 ?_ h0 (Ma _) (λh=>O') (λb' j8=>⟨?_,.inl ⟨rfl,rfl⟩⟩) w7))))
   ·show _<Own.j6 _ s'
    rw[eH];simp
   ·change Own.get _ s' _=some b' at j8
    rw[SH,if_pos ⟨rfl,rfl⟩]at j8;obtain rfl:(⟨a7,b.es.take 0++[]⟩:C2)=b':=by simpa using j8
    rfl
  ·have Bi:ad=some ⟨g,0,none⟩:=by simpa using js
   rw[hg]at cg;obtain⟨hB,mb,e2,qz,bu⟩:=cg;rw[hh]at qz;obtain⟨rfl,rfl⟩:arr=mb/\e'=e2:=by simpa using qz
   have ep:news.length=ys.length*a7:=ef.len;have hbound:len*a7+news.length<=arr.size:=by
    have:(len+ys.length)*a7<=(0+cap)*a7:=zR _ O'
    rw[vb]at this;omega
   have w5:=AmS ty tx e ex i hu Du hi g 0 len cap (.slice Av ys.length lf) ys.length news m.w oe xy arr e' hh (by rw[hsz];omega) o.type;rw[hsz,qb]at w5;generalize nm:(arr.toList.take (len*a7)++news++arr.toList.drop (len*a7+news.length)).toArray=y7 at w5;have da:∀p,y7[p]?=if p<len*a7 then arr[p]? else if p<len*a7+news.length then news[p-len*a7]? else arr[p]? := λp=>by rw[<-nm];exact Al5 arr (len*a7) news hbound p
   have qh:y7.size=arr.size:=by rw[<-nm];simp;omega
   obtain⟨k1,k2⟩:=pM hm s' t w7 b ⟨a7,b.es.take len++ys⟩ l9 (some g) (m.w.setRow g y7) (uT hm hB y7) Z' (λk _ vh=>setRow_other _ _ _ _ (λe=>vh (e▸hg))) Aj Z' (λg' je=>by
    obtain rfl:g=g':=by simpa using je
    refine⟨hB,.inr hg,y7,e',setRow_heap _ _ _ _ _ _ hh,λi' cs w6 j c hj=>?_⟩;show∃u,y7[i'*a7+j]?=some u/\_;by_cases hil:i'<len
    ·rw[Fa O',La,if_pos hil]at w6
     have eh:j<a7:=by rw[<-mw,<-mu cs (zM w6)];exact(zS hj).1
     obtain⟨u,hu',fh⟩:=bu i' cs w6 j c hj;refine⟨u,?_,fh⟩;have:(i'+1)*a7<=len*a7:=zR _ hil
     rw[kb]at this;rw[da,if_pos O',<-hu',mw]
    ·rw[Ba O',de]at w6
     obtain⟨u,hu',fh⟩:=ef.rel (i'-len) cs w6 j c hj;refine⟨u,?_,fh⟩;have oz:=(zS hu').1;have e1:i'*a7=len*a7+(i'-len)*a7:=by rw[<-vb];congr 1;omega
     rw[da,if_neg O',if_pos O',<-hu'];congr 1;omega)
   exact N7 (cA o6 (by rw[cr,sz,Bi];exact w5)) (hK _ ⟨j9 m s' (some g),m.own.put s' (((m.own s').q9 t none).new ⟨a7,b.es.take len++ys⟩),m.w.setRow g y7⟩ rfl k1 k2 (Tl w7 h0 xy (setRow_heap _ _ _ _ _ _ hh) (by rw[qh];simpa using Ml)))
 ·have hgrow:cap<len+ys.length:=O'
  obtain⟨fc,lk,hold,hrel⟩:∃fc:List Value,fc.length=len*a7/\(Builtin.firstCells i.size len (.slice ad len cap)).run P m.w.drew = .ok fc.toArray m.w.drew/\(∀i' cs,(b.es.take len)[i']?=some cs->∀j c,cs[j]?=some c->∃u,fc[i'*a7+j]?=some u/\CC B S m c u):=by
   rcases dp with⟨hl0,dz⟩|⟨g,arr,e',hg,js,hh,Ml⟩
   ·subst hl0
    refine⟨[],Z',?_,λi' cs w6=>by simp at w6⟩;cases ad with
    |none=>exact run_firstCells_none m.w.drew i.size 0 0 cap
    |some Cv=>exact run_firstCells_some m.w.drew i.size 0 Cv 0 cap [] Z' (λj v hv=>by simp at hv)
   ·have Bi:ad=some ⟨g,0,none⟩:=by simpa using js
    rw[hg]at cg;obtain⟨hB,mb,e2,qz,bu⟩:=cg;rw[hh]at qz;obtain⟨rfl,rfl⟩:arr=mb/\e'=e2:=by simpa using qz
    have s8:len*a7<=arr.size:=by
     have:len*a7<=(0+cap)*a7:=zR _ O'
     omega
    refine⟨arr.toList.take (len*a7),by simp;omega,?_,λi' cs w6 j c hj=>?_⟩
    ·rw[Bi]
     refine run_firstCells_some m.w.drew i.size len ⟨g,0,none⟩ len cap _ (by rw[hsz];simp;omega) (λj v hv=>?_);rw[La]at hv;split at hv
     ·rw[I0,VK (w:=m.w.drew) (show m.w.heap[g]?=_ from hh)]
      simpa using hv
     ·cases hv
    ·rw[La]at w6
     split at w6
     ·rename_i hil
      have eh:j<a7:=by rw[<-mw,<-mu cs (zM w6)];exact(zS hj).1
      obtain⟨u,hu',fh⟩:=bu i' cs w6 j c hj;refine⟨u,?_,fh⟩;have:(i'+1)*a7<=len*a7:=zR _ hil
      rw[kb]at this;rw[La,if_pos O',<-hu',mw];simp
     ·cases w6
  have w5:=run_append_grow_src (P:=P) m.w ty tx o.type e i z hu hi hz0 ad len cap fc hold (.slice Av ys.length lf) ys.length news oe hgrow O' (growslice_fits hgrow (by rw[uq];exact jy));have ep:news.length=ys.length*a7:=ef.len;have bq:len+ys.length<=grownCap m.w (len+ys.length) cap e:=grownCap_ge _ _ _ _;generalize Je:grownCap m.w (len+ys.length) cap e=gc at w5 bq;have fk:=Agj hm (.cells ((fc++news).toArray++Builtin.zeroCells z.cells (gc-(len+ys.length))) e);have dn:(m.w.drew.alloc (.cells ((fc++news).toArray++Builtin.zeroCells z.cells (gc-(len+ys.length))) e)).heap[m.w.heap.size]?=some (.cells ((fc++news).toArray++Builtin.zeroCells z.cells (gc-(len+ys.length))) e (0,0)):=heap_alloc_new m.w.drew _;obtain⟨k1,k2⟩:=pM hm s' t w7 b ⟨a7,b.es.take len++ys⟩ l9 (some m.w.heap.size) _ fk Z' (λk hk _=>Below.heap_alloc m.w.drew _ k hk) Aj Z' (λg' je=>by
   obtain rfl:m.w.heap.size=g':=by simpa using je
   refine⟨hm.size,.inl (Ma _),_,e,dn,λi' cs w6 j c hj=>?_⟩;obtain⟨u,hu',fh⟩:=AmI de lk (λq hq=>by rw[<-mw];exact mu q (jc hq)) hrel ef.rel i' cs w6 j c hj;refine⟨u,?_,fh⟩;rw[Aki _ _ _ _ _ (by have:=(zS hu').1;simpa using this)];exact hu')
  refine N7 (cA o6 (by rw[cr,sz];exact w5)) (hK _ ⟨j9 m s' (some m.w.heap.size),m.own.put s' (((m.own s').q9 t none).new ⟨a7,b.es.take len++ys⟩),_⟩ rfl k1 k2 (Tl w7 h0 bq dn ?_));have yy:(Builtin.zeroCells z.cells (gc-(len+ys.length))).size=(gc-(len+ys.length))*a7:=by simp[Builtin.zeroCells,gf]
  rw[Ge,yy];simp only[xf,Ie,lk,ep];rw[<-vb,<-vb];exact zR _ O'
theorem wX(hm:BH B S w0 m)(hs:CB B S m ρ a.eval){s a7 bytes:Nat}(w7:s<D9){x' y':AL}(h:A6 P num o.op (.app s a7 bytes x' y')=true){ys:v_}(hy:EX m.own (ρ y')=some ys)(hz:∀e∈ys,e.length=a7)(hx:ρ x' = .nil)
  (jy:ys.length*bytes<=ET) (El:ys.length<=9223372036854775807) :
  CF B S w0 P o a m (.bz (.row s (m.own.j6 s) a7 0 ys.length) (m.own.put s ((m.own s).new ⟨a7,ys⟩))):=by
 obtain⟨x,y,ty,e,i,z,tx,ex,o6,h1,h2,hu,hi,hsz,uq,hz0,gf,o7,Du⟩:=Qa h;have h0:0<a7:=Nc o7;have cr:=VS (hx▸hs x x' h1);obtain⟨Av,lf,news,sz,ef⟩:=mM hm (hs y y' h2) hy hz h0;have oe:Src P i.size tx (.slice Av ys.length lf) ys.length news m.w:=by rw[hsz];exact ef.src h0 hz Du lf
 intro K Q hK;by_cases pe:ys=[]
 ·subst pe
  have oa:news=[]:=ea (by simpa using ef.len);subst oa;have w5:=Vp ty tx e ex i hu Du hi none 0 (.slice Av 0 lf) m.w (by simpa using oe) o.type;obtain⟨k1,k2⟩:=Yn hm s a7 w7;refine N7 (cA o6 (by rw[cr,sz];simpa using w5)) (hK _ ⟨j9 m s none,m.own.put s ((m.own s).new ⟨a7,[]⟩),m.w⟩ rfl k1 k2 (.ca (.one (.row s (m.own.j6 s) a7 0 0 none 0 ?_ h0 (Ma _) (λh=>O') (λb' j8=>⟨?_,.inl ⟨rfl,rfl⟩⟩) w7))))
  ·show _<Own.j6 _ s
   rw[KP];simp
  ·change Own.get _ s _=some b' at j8
   rw[FV,if_pos ⟨rfl,rfl⟩]at j8;obtain rfl:(⟨a7,[]⟩:C2)=b':=by simpa using j8
   rfl
 ·have yi:0<ys.length:=List.length_pos_iff.2 pe
  have w5:=run_append_grow_src (P:=P) m.w ty tx o.type e i z hu hi hz0 none 0 0 [] (run_firstCells_none m.w.drew i.size 0 0 0) (.slice Av ys.length lf) ys.length news oe O' O' (growslice_fits O' (by rw[uq,qb];exact jy));simp only[qb,List.nil_append]at w5;have ep:news.length=ys.length*a7:=ef.len;have bq:ys.length<=grownCap m.w ys.length 0 e:=grownCap_ge _ _ _ _;generalize Je:grownCap m.w ys.length 0 e=gc at w5 bq;have hd:DL w0.D m.w.heap.size m.w m.w.drew:=(DL.refl _ _ _).drew;obtain⟨ig,Fy⟩:=grow hm hd;obtain⟨k1,k2⟩:=kY ig s w7 ⟨a7,ys⟩ (news.toArray++Builtin.zeroCells z.cells (gc-ys.length)) e hz (λi' cs w6 j c hj=>by
   obtain⟨u,hu',fh⟩:=ef.rel i' cs w6 j c hj;refine⟨u,?_,Fy.cc fh⟩;have oz:=(zS hu').1;show(news.toArray++Builtin.zeroCells z.cells (gc-ys.length))[i'*a7+j]?=some u;rw[Ld (by simpa using oz)];simpa using hu')
  have yy:(Builtin.zeroCells z.cells (gc-ys.length)).size=(gc-ys.length)*a7:=by simp[Builtin.zeroCells,gf]
  refine N7 (cA o6 (by rw[cr,sz];exact w5)) (hK _ ⟨j9 ⟨m.ν,m.own,m.w.drew⟩ s (some m.w.drew.heap.size),m.own.put s ((m.own s).new ⟨a7,ys⟩),_⟩ rfl k1 (Fy.trans k2) (Sd (m:=⟨m.ν,m.own,m.w.drew⟩) w7 h0 bq (heap_alloc_new m.w.drew _) ?_));rw[Ge,yy];simp only[xf,ep];rw[<-vb];exact zR _ O'
end
end Go.Eng

namespace Go.Eng
open Go.RowKit
section
variable {B:Nat} {S:Nat->Prop} {w0:F2} {m:M}
variable {P:Program} {num:Nat->Nat} {o:Oper} {a:Act} {ρ:AL->AV}
theorem An7(ow:Own)(s t:Nat)(b:C2)(h:ow.get s t=some b):ow.put s ((ow s).q9 t (some b))=ow:=by
 funext s'
 unfold Own.put BZ.q9;by_cases hs:s'=s
 ·subst hs
  rw[if_pos rfl];unfold Own.get at h;cases hx:ow s' with
  |mk c f=>
   rw[hx]at h;simp only at h;congr;funext t'
   by_cases ht:t'=t
   ·subst ht;simp[h]
   ·simp[ht]
 ·simp[hs]
structure EL where
 b0:Nat
 ok:World->Prop
 D:Prop
 size:∀w,ok w->b0<=w.heap.size
 keep:∀w w',ok w->Below b0 w w'->ok w'
def EL.Pp(D:Prop):EL:=⟨0,λ_=>True,D,λ_ _=>Hf _,λ_ _ _ _=>trivial⟩
def tL(P:Program)(num:Nat->Nat)(cmp:Nat->w_->Option AV):Prop := ∀(f:Nat)(vs:w_)(r:AV),cmp f vs=some r->(∀(us:Array Value)(w:World),(callFunc (num f) us).run P w = .ok (.enter (num f) us) w) /\
 ∀(S:Nat->Prop)(w:World)(us:List Value),vs.length=us.length->(∀(j:Nat)(c:AV)(v:Value),vs[j]?=some c->us[j]?=some v->CA w.heap.size S ⟨λ_ _=>none,Own.emp,w⟩ c v) ->
  Calls P (num f) us.toArray w λe w'=>∃u,e = .returned u/\DL True w.heap.size w w'/\CV w.heap.size S ⟨λ_ _=>none,Own.emp,w'⟩ r u
def IO{α:Type}(cf:α->α->Int)(x y:α):Bool:=decide (cf x y<0)
def ML{α:Type}[Inhabited α](enc:α->List Value)(k:Nat)(d:Array α):Array Value:=(Lf (d.size*k)).map λt=>(enc d[t/k]!)[t%k]!
def NG{α:Type}[Inhabited α](enc:α->List Value)(k:Nat)(w:World)(c9 off m:Nat)(dk:Array α)(os:Array Obj):World:=Sort.grow (Sort.putRow id (Sort.ahead w m) c9 off (ML enc k dk)) os
open Go.Sort in
def dO(P:Program)(n k:Nat):Prop:=(∀(us:Array Value)(w:World),(callFunc n us).run P w = .ok (.enter n us) w) /\
 (∀(p:Option Addr)(cap:Nat)(fv:Value)(w:World),Calls P n #[.slice p 0 cap,fv] w λe w'=>e = .returned (.tuple #[])/\w'=w) /\
 ∀(N:Nat)(enc:Fin (N+1)->List Value),(∀x,(enc x).length=k)->(∀x,∀v∈enc x,v.oneCell'=true)->∀(cf:Fin (N+1)->Fin (N+1)->Int),SWO (IO cf)->∀(g c9 off cap:Nat)(d:Array (Fin (N+1)))(w:World),
  (∀args w,(callFunc g args).run P w = .ok (.enter g args) w) ->
  (∀(m:Nat)(os:Array Obj)(dk:Array (Fin (N+1))),dk.size=d.size->∀x y:Fin (N+1),Calls P g (#[.agg (enc x).toArray,.agg (enc y).toArray] ++ #[]) (NG enc k w c9 off m dk os) λe w'=>e = .returned (.int .i64 (cf x y))/\∃q os',w'=Sort.grow ((NG enc k w c9 off m dk os).drewN q) os') ->
  Holds id w c9 off (ML enc k d)->c9<w.heap.size->d.size<4611686018427387904->(∀x y,(IO cf) x y=false->(IO cf) y x=false->x=y) ->
  Calls P n #[.slice (some ⟨c9,off,none⟩) d.size cap,.func (.func g) #[] #[]] w λe w'=>
   e = .returned (.tuple #[])/\∃n os,w'=NG enc k w c9 off n (d.toList.mergeSort λx y=>!(IO cf) y x).toArray os
structure cY(I:EL)(P:Program)(num:Nat->Nat)(C:Cl):Prop where
 px:∀(f:Nat)(vs:w_)(r:AV),C.pure f vs=some r->∀(us:Array Value)(w:World),(callFunc (num f) us).run P w = .ok (.enter (num f) us) w
 pt:∀(f:Nat)(vs:w_)(own:Own)(r:AV×Own),C.fq f vs own=some r->∀(us:Array Value)(w:World),(callFunc (num f) us).run P w = .ok (.enter (num f) us) w
 pure:∀(f:Nat)(vs:w_)(r:AV),C.pure f vs=some r->∀(S:Nat->Prop)(w:World)(us:List Value),I.ok w->vs.length=us.length->(∀(j:Nat)(c:AV)(v:Value),vs[j]?=some c->us[j]?=some v->CA w.heap.size S ⟨λ_ _=>none,Own.emp,w⟩ c v) ->
  Calls P (num f) us.toArray w λe w'=>∃u,e = .returned u/\DL I.D w.heap.size w w'/\CV w.heap.size S ⟨λ_ _=>none,Own.emp,w'⟩ r u/\AY r
 fq:∀(f:Nat)(vs:w_)(own:Own)(r:AV)(o8:Own),C.fq f vs own=some (r,o8)->∀(B:Nat)(S:Nat->Prop)(w0:F2)(m:M)(us:List Value),I.b0<=B->I.ok w0.w->(w0.D->I.D)->m.own=own->BH B S w0 m->vs.length=us.length->(∀(j:Nat)(c:AV)(v:Value),vs[j]?=some c->us[j]?=some v->CV B S m c v) ->
  Calls P (num f) us.toArray m.w λe w'=>∃u m',e = .returned u/\m'.w=w'/\m'.own=o8/\BH B S w0 m'/\CU B S m m'/\CV B S m' r u
 cmp:tL P num C.cmp
 fe:∀(fs k:Nat),C.ff fs=some k->dO P (num fs) k
 num:C.num=num
structure HE(I:EL)(P:Program)(num:Nat->Nat)(C:Cl)(B:Nat)(w0:F2):Prop where
 c:cY I P num C
 hB:I.b0<=B
 hw:I.ok w0.w
 hD:w0.D->I.D
theorem HE.ok{I:EL}{P:Program}{num:Nat->Nat}{C:Cl}{B:Nat}{S:Nat->Prop}{w0:F2}{m:M}(h:HE I P num C B w0)(hm:BH B S w0 m):I.ok m.w:=I.keep _ _ h.hw (hm.below.toBelow.mono h.hB)
end
end Go.Eng

namespace Go.Eng
open Go.RowKit
theorem Q6{α β:Type}(f:α->Option β):∀{l:List α}{l':List β},l.mapM f=some l'->l.length=l'.length/\∀(i:Nat)(x:α),l[i]?=some x->∃y,l'[i]?=some y/\f x=some y
 |[],l',h=>by
  simp at h;subst h;exact⟨rfl,λi x hx=>by simp at hx⟩
 |x::r,l',h=>by
  simp only[fb,db,xc]at h;cases hx:f x with
  |none=>simp[hx]at h
  |some y=>
   cases hr:r.mapM f with
   |none=>simp[hx,hr]at h
   |some r'=>
    simp[hx,hr]at h;subst h;obtain⟨h1,h2⟩:=Q6 f hr;refine⟨by simp[h1],λi z hz=>?_⟩;cases i with
    |zero=>simp at hz;subst hz;exact⟨y,rfl,hx⟩
    |succ i=>exact h2 i z (by simpa using hz)
section
variable {B:Nat} {S:Nat->Prop} {w0:F2} {m:M}
variable {P:Program} {num:Nat->Nat} {o:Oper} {a:Act} {ρ:AL->AV}
theorem Yu(hm:BH B S w0 m)(l0:Bool)(R:Bool->Nat->Prop)(hR:∀l b,b<m.w.heap.size->safe B S m l b->R l b)(hL:∀s t g,live m s t->m.ν s t=some g->R l0 g) :
  ∀(d:Nat)(c c':AV)(v:Value),snap m.own l0 d c=some c'->CC B S m c v->Rd m.w R c' v:=by
 intro d;induction d with
 |zero=>
  intro c c' v h hc;cases hc with
  |rd hr=>
   have:c'=c:=by cases hr<;>simp[snap]at h<;>exact h.symm
   subst this;exact hr.mono hR (λ_ _ _ _=>rfl)
  |nil=>simp[snap]at h;subst h;exact .jb _ _ _
  |_=>simp[snap]at h
 |succ d ih=>
  intro c c' v h hc;cases hc with
  |rd hr=>
   have:c'=c:=by cases hr<;>simp[snap]at h<;>exact h.symm
   subst this;exact hr.mono hR (λ_ _ _ _=>rfl)
  |nil=>simp[snap]at h;subst h;exact .jb _ _ _
  |ptr=>simp[snap]at h
  |mp=>simp[snap]at h
  |x9=>simp[snap]at h
  |row s t z off len ad cap ht hz0 jn ha hb w7=>
   simp only[snap]at h;cases ef:EX m.own (.row s t z off len)with
   |none=>simp[ef]at h
   |some es=>
    simp only[ef]at h;cases fi:es.mapM (λcs:w_=>cs.mapM (snap m.own l0 d))with
    |none=>simp[fi]at h
    |some es'=>
     simp[fi]at h;subst h;have Pb:(∀e∈es,e.length=z)/\es.length=len/\∃b,m.own.get s t=some b:=by
      simp only[EX]at ef;cases l9:m.own.get s t with
      |none=>simp[l9]at ef
      |some b=>
       simp only[l9]at ef;split at ef
       ·rename_i hle
        obtain rfl:=ga ef;refine⟨λe he=>?_,by simp;omega,b,rfl⟩;rw[<-hle.2];exact(hm.mc l9 w7).1 e (me (jc he))
       ·cases ef
     obtain⟨hz,hlen,b,l9⟩:=Pb;have hcv:CV B S m (.row s t z off len) (.slice ad len cap):= .ca (.one (.row s t z off len ad cap ht hz0 jn ha hb w7));obtain⟨ad2,Aw,news,Jr,hE⟩:=mM hm hcv ef hz hz0;obtain⟨rfl,_,rfl⟩:ad=ad2/\len=es.length/\cap=Aw:=by simpa using Jr
     obtain⟨gq,uy⟩:=Q6 _ fi;by_cases h0:es=[]
     ·subst h0
      have:es'=[]:=ea (by rw[<-gq];rfl)
      subst this;have:len=0:=by rw[<-hlen];rfl
      subst this;exact .jb _ _ _
     ·obtain⟨_,dp⟩:=hb b l9
      rcases dp with⟨ABd,_⟩|⟨g,arr,e',hg,js,hh,Ml⟩
      ·exact absurd (ea O') h0
      ·rw[js,<-hlen,gq]
       refine .sl l0 es' g (off*z) z cap (λi j=>news.getD (i*z+j) undef) (λe=>h0 (ea (by rw[gq,e];rfl))) hz0 (hL s t g ⟨b,l9⟩ hg) O' (λe' im=>?_) (λi e hi j c hj=>?_) (λi e hi j c hj=>?_)
       ·obtain⟨i,hi,rfl⟩:=Dc im
        have w6:i<es.length:=O'
        obtain⟨y,hy,fx⟩:=uy i es[i] (zE w6);have:es'[i]=y:=by
         have:=(zS hy).2;exact this
        rw[this,<-(Q6 _ fx).1];exact hz _ (Nb w6)
       ·have w6:i<es.length:=by rw[gq];exact(zS hi).1
        obtain⟨y,hy,fx⟩:=uy i es[i] (zE w6);rw[hi]at hy;obtain rfl:e=y:=by simpa using hy
        obtain⟨iu,_⟩:=Q6 _ fx;have Dj:j<(es[i]).length:=by rw[iu];exact(zS hj).1
        obtain⟨u,hu,fh⟩:=hE.rel i es[i] (zE w6) j _ (zE Dj);have:=hE.cells _ js (i*z+j) u hu
        rw[I0]at this;simp only[sf,hu,vd];exact this
       ·have w6:i<es.length:=by rw[gq];exact(zS hi).1
        obtain⟨y,hy,fx⟩:=uy i es[i] (zE w6);rw[hi]at hy;obtain rfl:e=y:=by simpa using hy
        obtain⟨iu,je⟩:=Q6 _ fx;have Dj:j<(es[i]).length:=by rw[iu];exact(zS hj).1
        obtain⟨u,hu,fh⟩:=hE.rel i es[i] (zE w6) j _ (zE Dj);obtain⟨c2,ru,yl⟩:=je j _ (zE Dj);rw[hj]at ru;obtain rfl:c=c2:=by simpa using ru
        simp only[sf,hu,vd];exact ih _ _ _ yl fh
def DA(w:World)(R:Bool->Nat->Prop)(c:AV)(v:Value):Prop :=
 Rd w R c v\/∃(cs:w_) (vs:List Value),c = .agg cs/\v = .agg vs.toArray/\cs.length=vs.length/\∀(j:Nat)(x:AV)(u:Value),cs[j]?=some x->vs[j]?=some u->Rd w R x u
theorem jQ(hm:BH B S w0 m)(l0:Bool)(R:Bool->Nat->Prop)(hR:∀l b,b<m.w.heap.size->safe B S m l b->R l b)(hL:∀s t g,live m s t->m.ν s t=some g->R l0 g)
  {c c':AV} {v:Value} (h:CX m.own l0 c=some c') (hc:CV B S m c v):DA m.w R c' v:=by
 cases hc with
 |any v=>simp[CX,snap]at h
 |j4=>simp[CX,snap]at h
 |ca hc=>cases hc with
  |one hc=>
   have h':snap m.own l0 6 c=some c':=by
    cases hc with
    |rd hr=>cases hr<;>simpa [CX]using h
    |_=>simpa [CX]using h
   exact Or.inl (Yu hm l0 R hR hL 6 c c' v h' hc)
  |fn=>simp[CX,snap]at h
  |tf=>simp[CX,snap]at h
  |agg cs vs s8=>
   simp only[CX]at h;cases kj:cs.mapM (snap m.own l0 6)with
   |none=>simp[kj]at h
   |some fu=>
    simp[kj]at h;subst h;obtain⟨h1,h2⟩:=Q6 _ kj;refine Or.inr ⟨fu,vs,rfl,rfl,h1.symm.trans s8.1,λj x u hx hu=>?_⟩;have hj:j<cs.length:=by rw[h1];exact(zS hx).1
    obtain⟨y,hy,fx⟩:=h2 j cs[j] (zE hj);rw[hx]at hy;obtain rfl:x=y:=by simpa using hy
    exact Yu hm l0 R hR hL 6 _ _ _ fx (s8.2 j cs[j] u (zE hj) hu)
def DV(w:World)(R:Bool->Nat->Prop)(c:AV)(v:Value):Prop :=
 DA w R c v\/∃(cs:w_) (vs:List Value),c = .j4 cs/\v = .tuple vs.toArray/\cs.length=vs.length/\∀(j:Nat)(x:AV)(u:Value),cs[j]?=some x->vs[j]?=some u->DA w R x u
theorem Ann(hm:BH B S w0 m)(l0:Bool)(R:Bool->Nat->Prop)(hR:∀l b,b<m.w.heap.size->safe B S m l b->R l b)(hL:∀s t g,live m s t->m.ν s t=some g->R l0 g)
  {c c':AV} {v:Value} (h:US m.own l0 c=some c') (hc:CV B S m c v):DV m.w R c' v:=by
 by_cases ht:∃cs,c = .j4 cs
 ·obtain⟨cs,rfl⟩:=ht
  obtain⟨vs,rfl,hl,bu⟩:=lR hc;simp only[US]at h;cases kj:cs.mapM (CX m.own l0)with
  |none=>simp[kj]at h
  |some fu=>
   simp[kj]at h;subst h;obtain⟨h1,h2⟩:=Q6 _ kj;refine Or.inr ⟨fu,vs,rfl,rfl,h1.symm.trans hl,λj x u hx hu=>?_⟩;have hj:j<cs.length:=by rw[h1];exact(zS hx).1
   obtain⟨y,hy,fx⟩:=h2 j cs[j] (zE hj);rw[hx]at hy;obtain rfl:x=y:=by simpa using hy
   exact jQ hm l0 R hR hL fx (.ca (bu j cs[j] u (zE hj) hu))
 ·have h':CX m.own l0 c=some c':=by
   cases c<;>first|exact h|exact absurd ⟨_,rfl⟩ ht
  exact Or.inl (jQ hm l0 R hR hL h' hc)
theorem DA.ca{B:Nat}{S:Nat->Prop}{m:M}{c:AV}{v:Value}(h:DA m.w (safe B S m) c v):CA B S m c v:=by
 rcases h with h|⟨cs,vs,rfl,rfl,hl,hh⟩
 ·exact .one (.rd h)
 ·exact .agg cs vs ⟨hl,λj x u hx hu=>.rd (hh j x u hx hu)⟩
theorem DV.cv{B:Nat}{S:Nat->Prop}{m:M}{c:AV}{v:Value}(h:DV m.w (safe B S m) c v):CV B S m c v:=by
 rcases h with h|⟨cs,vs,rfl,rfl,hl,hh⟩
 ·exact .ca h.ca
 ·exact .j4 cs vs hl λj x u hx hu=>(hh j x u hx hu).ca
theorem MF:∀{cs:w_},BI cs->∀(j:Nat)(c:AV),cs[j]?=some c->AY c
 |[],_,j,c,h=>by simp at h
 |x::r,hc,j,c,h=>by
  unfold BI at hc;cases j with
  |zero=>simp at h;subst h;exact hc.1
  |succ j=>exact MF hc.2 j c (by simpa using h)
theorem Z6:∀{cs:v_},DB cs->∀(j:Nat)(c:w_),cs[j]?=some c->BI c
 |[],_,j,c,h=>by simp at h
 |x::r,hc,j,c,h=>by
  unfold DB at hc;cases j with
  |zero=>simp at h;subst h;exact hc.1
  |succ j=>exact Z6 hc.2 j c (by simpa using h)
theorem Rd.clean{w:World}{R R':Bool->Nat->Prop}(hR:∀b,b<w.heap.size->R false b->R' false b){c:AV}{v:Value}(h:Rd w R c v)(hc:AY c):Rd w R' c v:=by
 induction h with
 |int k n=>exact .int k n
 |bool b=>exact .bool b
 |str s=>exact .str s
 |ml=>exact .ml
 |mn=>exact .mn
 |jb l a cap=>exact .jb l a cap
 |emp b a cap h=>exact .emp b a cap h
 |sl l es b o a7 cap u o7 hp h1 bq hz s8 hr ih=>
  unfold AY at hc;obtain⟨rfl,hc⟩:=hc;obtain⟨e,c,he,dz⟩:=aQ o7 hp hz;have hb:b<w.heap.size:=RS (s8 0 e he 0 c dz);exact .sl false es b o a7 cap u o7 hp (hR b hb h1) bq hz s8 λi e he j c hj=>ih i e he j c hj (MF (Z6 hc i e he) j c hj)
theorem DA.clean{w:World}{R R':Bool->Nat->Prop}(hR:∀b,b<w.heap.size->R false b->R' false b){c:AV}{v:Value}(h:DA w R c v)(hc:AY c):DA w R' c v:=by
 rcases h with h|⟨cs,vs,rfl,rfl,hl,hh⟩
 ·exact Or.inl (h.clean hR hc)
 ·unfold AY at hc
  exact Or.inr ⟨cs,vs,rfl,rfl,hl,λj x u hx hu=>(hh j x u hx hu).clean hR (MF hc j x hx)⟩
theorem DV.clean{w:World}{R R':Bool->Nat->Prop}(hR:∀b,b<w.heap.size->R false b->R' false b){c:AV}{v:Value}(h:DV w R c v)(hc:AY c):DV w R' c v:=by
 rcases h with h|⟨cs,vs,rfl,rfl,hl,hh⟩
 ·exact Or.inl (h.clean hR hc)
 ·unfold AY at hc
  exact Or.inr ⟨cs,vs,rfl,rfl,hl,λj x u hx hu=>(hh j x u hx hu).clean hR (MF hc j x hx)⟩
theorem lQ{B:Nat}{S:Nat->Prop}{m:M}{c:AV}{v:Value}(h:CV B S m c v)(hc:AY c):DV m.w (safe B S m) c v:=by
 have one:∀{c:AV}{v:Value},CC B S m c v->AY c->Rd m.w (safe B S m) c v:=λh hc=>by
  cases h with
  |rd h=>exact h
  |_=>unfold AY at hc;exact hc.elim
 have ca:∀{c:AV}{v:Value},CA B S m c v->AY c->DA m.w (safe B S m) c v:=λh hc=>by
  cases h with
  |one h=>exact Or.inl (one h hc)
  |fn=>unfold AY at hc;exact hc.elim
  |tf=>unfold AY at hc;exact hc.elim
  |agg cs vs h=>
   unfold AY at hc;exact Or.inr ⟨cs,vs,rfl,rfl,h.1,λj x u hx hu=>one (h.2 j x u hx hu) (MF hc j x hx)⟩
 cases h with
 |any v=>unfold AY at hc;exact hc.elim
 |ca h=>exact Or.inl (ca h hc)
 |j4 as vs hl h=>
  unfold AY at hc;exact Or.inr ⟨as,vs,rfl,rfl,hl,λj x u hx hu=>ca (h j x u hx hu) (MF hc j x hx)⟩
theorem Y2{f:Nat}{xs:Array Operand}{ts:Array TypeId}(o6:o.op = .call ⟨.value (.func f),xs,ts⟩){w:World}(h:(callFunc f (xs.map a.eval)).run P w = .ok (.enter f (xs.map a.eval)) w):(execOp a.eval o).run P w = .ok (.enter f (xs.map a.eval)) w:=by
 simp[execOp,o6,resolve,Deferred.ofValue,Act.eval,invoke];exact h
theorem xB{C:Cl}{I:EL}(hC:HE I P num C B w0)(hm:BH B S w0 m){f:Nat}{us:List Value}{as:w_}(hl:us.length=as.length)(hx:∀(j:Nat)(v:Value)(c:AV),us[j]?=some v->as[j]?=some c->CV B S m c v)(hex:∀w:World,(callFunc (num f) us.toArray).run P w = .ok (.enter (num f) us.toArray) w->(execOp a.eval o).run P w = .ok (.enter (num f) us.toArray) w){vs:w_}{r:AV}(hv:as.mapM (CX m.own true)=some vs)(hr:C.pure f vs=some r):CF B S w0 P o a m (.val r):=by
 obtain⟨iu,je⟩:=Q6 _ hv;have lg:∀(j:Nat)(c:AV)(v:Value),vs[j]?=some c->us[j]?=some v->CA m.w.heap.size (safe B S m false) ⟨λ_ _=>none,Own.emp,m.w⟩ c v:=by
  intro j c v hc pc;have eh:j<as.length:=by rw[<-hl];exact(zS pc).1
  obtain⟨y,hy,fx⟩:=je j as[j] (zE eh);rw[hc]at hy;obtain rfl:c=y:=by simpa using hy
  have hcv:=hx j v as[j] pc (zE eh);have wm:=jQ hm true (safe m.w.heap.size (safe B S m false) ⟨λ_ _=>none,Own.emp,m.w⟩) (λl b hb vn=>by
   cases l with
   |false=>exact .inl ⟨vn,hb⟩
   |true=>exact .inr (.inr ⟨rfl,hb⟩)) (λs t g ji hg=>by
   obtain⟨_,x0,hh⟩:=hm.ge ji hg;exact .inr (.inr ⟨rfl,(sa.1 hh).1⟩)) fx hcv
  exact DA.ca (m:=⟨λ_ _=>none,Own.emp,m.w⟩) wm
 have dj:=hC.c.pure f vs r hr (safe B S m false) m.w us (hC.ok hm) (by rw[<-iu];exact hl.symm) lg;intro K Q hK;unfold Oper.wp;rw[hex _ (hC.c.px f vs r hr _ _)];refine Calls.mono dj λe w' ⟨u,im,fk,hcv,s8⟩=>?_
 subst im;obtain⟨kg,fm⟩:=grow hm (fk.Ib hC.hD);refine hK u ⟨m.ν,m.own,w'⟩ rfl kg fm ?_;refine DV.cv (m:=⟨m.ν,m.own,w'⟩) ((lQ hcv s8).clean (λb hb vn=>?_) s8);rcases vn with⟨h1,h2⟩|⟨h1,_⟩|⟨h1,_⟩
 ·exact fm.Ap false b h2 h1
 ·refine .inr (.inl ⟨Mb hm.size h1,λs t ji hg=>?_⟩)
  obtain⟨b',j8⟩:=Da.1 ji;obtain⟨_,x0,hh⟩:=hm.ge ⟨b',j8⟩ hg;have:=(sa.1 hh).1
  omega
 ·cases h1
theorem xA{C:Cl}{I:EL}(hC:HE I P num C B w0)(hm:BH B S w0 m)(hs:CB B S m ρ a.eval){f:Nat}{xs:Array Operand}{xs':List AL}(he:EH xs.toList xs'=true)(hex:∀w:World,(callFunc (num f) (xs.map a.eval)).run P w = .ok (.enter (num f) (xs.map a.eval)) w->(execOp a.eval o).run P w = .ok (.enter (num f) (xs.map a.eval)) w){vs:w_}{r:AV}(hv:(xs'.map ρ).mapM (CX m.own true)=some vs)(hr:C.pure f vs=some r):CF B S w0 P o a m (.val r):=by
 obtain⟨hl,hx⟩:=R3 hs he;have bg:(xs.map a.eval)=(xs.toList.map a.eval).toArray:=by cases xs;simp
 rw[bg]at hex;refine xB hC hm (us:=xs.toList.map a.eval) (as:=xs'.map ρ) (by simp[hl]) (λj v c h1 h2=>?_) hex hv hr;rw[Oa]at h1 h2;cases lz:xs.toList[j]? with
 |none=>simp[lz]at h1
 |some x=>
  cases pd:xs'[j]? with
  |none=>simp[pd]at h2
  |some y=>
   simp only[lz,pd,Aa,za]at h1 h2;subst h1 h2;exact hx j x y lz pd
theorem Ahx{C:Cl}{I:EL}(hC:HE I P num C B w0)(hm:BH B S w0 m)(hs:CB B S m ρ a.eval){f:Nat}{xs':List AL}(h:A6 P num o.op (.call f xs')=true){vs:w_}{r:AV}(hv:(xs'.map ρ).mapM (CX m.own true)=some vs)(hr:C.pure f vs=some r):CF B S w0 P o a m (.val r):=by
 obtain⟨xs,ts,o6,he⟩:=gO h;exact xA hC hm hs he (λw h=>Y2 o6 h) hv hr
theorem mF{C:Cl}{I:EL}(hC:HE I P num C B w0)(hm:BH B S w0 m)(hs:CB B S m ρ a.eval){f:Nat}{xs':List AL}(h:A6 P num o.op (.j5 f xs')=true){r:AV}{o8:Own}(hr:C.fq f (xs'.map ρ) m.own=some (r,o8)):CF B S w0 P o a m (.bz r o8):=by
 obtain⟨xs,ts,o6,he⟩:=AkM h;obtain⟨hl,hx⟩:=R3 hs he;have bg:(xs.map a.eval)=(xs.toList.map a.eval).toArray:=by cases xs;simp
 have dj:=hC.c.fq f (xs'.map ρ) m.own r o8 hr B S w0 m (xs.toList.map a.eval) hC.hB hC.hw hC.hD rfl hm (by simp[hl]) (λj c v hc hv=>by
  rw[Oa]at hc hv;cases lz:xs.toList[j]? with
  |none=>simp[lz]at hv
  |some x=>
   cases pd:xs'[j]? with
   |none=>simp[pd]at hc
   |some y=>
    simp[lz]at hv;simp[pd]at hc;subst hv hc;exact hx j x y lz pd)
 intro K Q hK;unfold Oper.wp;rw[Y2 o6 (hC.c.pt f _ _ _ hr _ _),bg];refine Calls.mono dj λe w' ⟨u,m',im,hw,hown,kg,fm,hcv⟩=>?_
 subst im hw;exact hK u m' hown kg fm hcv
theorem Af0(hm:BH B S w0 m){w':World}(hb:DL w0.D m.w.heap.size m.w w')(s:Nat)(w7:s<D9)(b:C2)(gg:Option Nat)(hz:∀x∈b.es,x.length=b.a7)
  (hg:match gg with|none=>b.es=[]|some g=>m.w.heap.size<=g/\∃arr e,w'.heap[g]?=some (.cells arr e (0,0))/\∀i cs,b.es[i]?=some cs->∀j c,cs[j]?=some c->∃u,arr[i*b.a7+j]?=some u/\CC B S ⟨j9 m s gg,m.own.put s ((m.own s).new b),w'⟩ c u) :
  BH B S w0 ⟨j9 m s gg,m.own.put s ((m.own s).new b),w'⟩/\CU B S m ⟨j9 m s gg,m.own.put s ((m.own s).new b),w'⟩:=by
 have hν:∀s' t',live m s' t'->j9 m s gg s' t'=m.ν s' t':=λs' t' hl=>by
  unfold j9;rw[if_neg];rintro⟨rfl,rfl⟩
  exact bI hm _ hl
 have ic:∀g,gg=some g->m.w.heap.size<=g:=λg e=>by subst e;exact hg.1
 have he:CU B S m ⟨j9 m s gg,m.own.put s ((m.own s).new b),w'⟩:=by
  refine OL hm hb.size (λk hk _=>hb.block k hk) (λs'=>?_) (λs' t' b' ht j8=>?_) (λs' t' g hl da hlt=>?_)
  ·rw[KP];split
   ·rename_i h;subst h;omega
   ·exact Ma _
  ·rw[FV]at j8
   rw[if_neg (by rintro⟨rfl,rfl⟩;omega)]at j8;refine⟨b',j8,rfl,hν s' t' ⟨b',j8⟩,λg ar e' da ha=>⟨ar,?_,rfl⟩⟩;exact(hb.block g (sa.1 ha).1).trans ha
  ·obtain⟨b',j8⟩:=hl
   rw[FV]at j8;by_cases h:s'=s/\t'=m.own.j6 s
   ·simp only[j9,if_pos h]at da
    have:=ic g da
    omega
   ·rw[if_neg h]at j8
    exact⟨s',t',⟨b',j8⟩,by rw[<-hν s' t' ⟨b',j8⟩];exact da⟩
 refine⟨⟨hm.below.trans (hb.mono hm.size),Mb hm.size hb.size,λs' t' ht=>?_,λs' t' b' j8=>?_,λs1 t1 s2 t2 b1 b2 g h1 h2 g1 g2=>?_⟩,he⟩
 ·rw[KP]at ht
  rw[FV,if_neg]
  ·refine hm.fresh s' t' ?_
   split at ht
   ·rename_i h;subst h;omega
   ·exact ht
  ·rintro⟨rfl,rfl⟩
   simp at ht;omega
 ·rw[FV]at j8
  by_cases h:s'=s/\t'=m.own.j6 s
  ·rw[if_pos h]at j8
   obtain rfl:b=b':=by simpa using j8
   refine⟨λ_=>⟨hz,?_⟩,λic=>by have:=h.1;omega⟩;show match j9 m s gg s' t' with|none=>_|some g=>_
   rw[show j9 m s gg s' t'=gg by simp[j9,h]];cases gg with
   |none=>exact hg
   |some g=>exact⟨Mb hm.size hg.1,hg.2⟩
  ·rw[if_neg h]at j8
   exact(hm.c9 s' t' b' j8).ext he (hν s' t' ⟨b',j8⟩) λg x _ hx=>(hb.block g (sa.1 hx).1).trans hx
 ·rw[FV]at h1 h2
  have lt:∀s' t' b',m.own.get s' t'=some b'->j9 m s gg s' t'=some g->g<m.w.heap.size:=λs' t' b' j8 da=>by
   rw[hν s' t' ⟨b',j8⟩]at da;obtain⟨_,x0,h4⟩:=hm.ge ⟨b',j8⟩ da;exact(sa.1 h4).1
  have at_:∀s' t',s'=s/\t'=m.own.j6 s->j9 m s gg s' t'=some g->m.w.heap.size<=g:=λs' t' h da=>by
   simp only[j9,if_pos h]at da;exact ic g da
  by_cases p1:s1=s/\t1=m.own.j6 s<;>by_cases p2:s2=s/\t2=m.own.j6 s
  ·exact⟨p1.1.trans p2.1.symm,p1.2.trans p2.2.symm⟩
  ·rw[if_neg p2]at h2
   have:=lt s2 t2 b2 h2 g2
   have:=at_ s1 t1 p1 g1
   omega
  ·rw[if_neg p1]at h1
   have:=lt s1 t1 b1 h1 g1
   have:=at_ s2 t2 p2 g2
   omega
  ·rw[if_neg p1]at h1
   rw[if_neg p2]at h2;exact hm.inj s1 t1 s2 t2 b1 b2 g h1 h2 (by rw[<-hν s1 t1 ⟨b1,h1⟩];exact g1) (by rw[<-hν s2 t2 ⟨b2,h2⟩];exact g2)
theorem AhB{C:Cl}{I:EL}(hC:HE I P num C B w0)(hm:BH B S w0 m)(hs:CB B S m ρ a.eval){s f:Nat}(w7:s<D9){xs':List AL}(h:A6 P num o.op (.x5 s f xs')=true){vs:w_}(hv:(xs'.map ρ).mapM (QB m.own true)=some vs){z:Nat}{es:v_}(hr:OD (C.fq f vs Own.emp)=some (z,es)) :
  CF B S w0 P o a m (.new s ⟨z,es⟩ (λt=>.row s t z 0 es.length)):=by
 obtain⟨xs,ts,o6,he⟩:=gO (AkO h);obtain⟨s0,t0,o',b0,gp,l9,rfl,s8⟩:=AfZ hr;obtain⟨hl,hx⟩:=R3 hs he;obtain⟨iu,je⟩:=Q6 _ hv;have bg:(xs.map a.eval)=(xs.toList.map a.eval).toArray:=by cases xs;simp
 have lg:∀(j:Nat)(c:AV)(v:Value),vs[j]?=some c->(xs.toList.map a.eval)[j]?=some v->CV m.w.heap.size (safe B S m false) ⟨λ_ _=>none,Own.emp,m.w⟩ c v:=by
  intro j c v hc pc;rw[Oa]at pc;cases lz:xs.toList[j]? with
  |none=>simp[lz]at pc
  |some x=>
   simp[lz]at pc;subst pc;have eh:j<xs'.length:=by rw[<-hl];exact(zS lz).1
   obtain⟨y,hy,fx⟩:=je j (ρ xs'[j]) (by rw[Oa,zE eh];rfl);rw[hc]at hy;obtain rfl:c=y:=by simpa using hy
   have hcv:=hx j x xs'[j] lz (zE eh);have hN:(ρ xs'[j] = .nil/\c = .nil)\/CX m.own true (ρ xs'[j])=some c:=by
    cases e:ρ xs'[j]with
    |nil=>rw[e]at fx;exact .inl ⟨rfl,(ga fx).symm⟩
    |_=>rw[e]at fx;exact .inr fx
   rcases hN with⟨e1,rfl⟩|fx
   ·rw[e1]at hcv
    rw[VS hcv];exact .ca (.one .nil)
   have wm:=jQ hm true (safe m.w.heap.size (safe B S m false) ⟨λ_ _=>none,Own.emp,m.w⟩) (λl b hb vn=>by
    cases l with
    |false=>exact .inl ⟨vn,hb⟩
    |true=>exact .inr (.inr ⟨rfl,hb⟩)) (λs t g ji hg=>by
    obtain⟨_,x0,hh⟩:=hm.ge ji hg;exact .inr (.inr ⟨rfl,(sa.1 hh).1⟩)) fx hcv
   exact .ca (DA.ca (m:=⟨λ_ _=>none,Own.emp,m.w⟩) wm)
 have Bw:BH m.w.heap.size (safe B S m false) ⟨m.w,w0.D⟩ ⟨λ_ _=>none,Own.emp,m.w⟩:=⟨DL.refl _ _ _,Ma _,λ_ _ _=>rfl,(λs t b h=>by cases h),(λ_ _ _ _ _ _ _ h=>by cases h)⟩;have dj:=hC.c.fq f vs Own.emp _ o' gp m.w.heap.size (safe B S m false) ⟨m.w,w0.D⟩ ⟨λ_ _=>none,Own.emp,m.w⟩ (xs.toList.map a.eval) (I.size _ (hC.ok hm)) (hC.ok hm) hC.hD rfl Bw (by rw[<-iu];simp[hl]) lg;intro K Q hK;unfold Oper.wp;rw[Y2 o6 (hC.c.pt f _ _ _ gp _ _),bg];refine Calls.mono dj λe w' ⟨u,m',im,hw,hown,kg,Ao8,hcv⟩=>?_
 subst im hw;have fk:DL w0.D m.w.heap.size m.w m'.w:=kg.below;rw[<-hown]at l9;obtain⟨hz,hblk⟩:=kg.mc l9 (VT hcv);obtain⟨ad,cap,rfl,ht,hz0,jn,ha,hb⟩:=QR hcv;obtain⟨gf,dp⟩:=hb b0 l9;subst gf;have hold:∀s t g,live m s t->m.ν s t=some g->g<m.w.heap.size:=λs t g ji hg=>by
  obtain⟨_,x0,hh⟩:=hm.ge ji hg;exact(sa.1 hh).1
 have Bv:∀s' t' g,live ⟨j9 m s (m'.ν s0 t0),m.own.put s ((m.own s).new ⟨b0.a7,b0.es⟩),m'.w⟩ s' t'->j9 m s (m'.ν s0 t0) s' t'=some g->g<m.w.heap.size\/m'.ν s0 t0=some g:=λs' t' g ji hg=>by
  obtain⟨b',j8⟩:=ji;rw[FV]at j8;by_cases o4:s'=s/\t'=m.own.j6 s
  ·simp only[j9,if_pos o4]at hg
   exact Or.inr hg
  ·rw[if_neg o4]at j8
   simp only[j9,if_neg o4]at hg;exact Or.inl (hold s' t' g ⟨b',j8⟩ hg)
 have hR:∀b,b<m'.w.heap.size->safe m.w.heap.size (safe B S m false) m' false b->safe B S ⟨j9 m s (m'.ν s0 t0),m.own.put s ((m.own s).new ⟨b0.a7,b0.es⟩),m'.w⟩ false b:=λb Bl vn=>by
  rcases vn with⟨h1,h2⟩|⟨h1,h2⟩|⟨h1,_⟩
  ·rcases h1 with h1|⟨h1,h3⟩|⟨h1,_⟩
   ·exact .inl h1
   ·refine .inr (.inl ⟨h1,λs' t' ji hg=>?_⟩)
    obtain⟨b',j8⟩:=Da.1 ji;have v8:=j8;rw[FV]at v8;by_cases o4:s'=s/\t'=m.own.j6 s
    ·simp only[j9,if_pos o4]at hg
     rw[hg]at hblk;have:=hblk.1
     omega
    ·rw[if_neg o4]at v8
     simp only[j9,if_neg o4]at hg;exact h3 s' t' (by rw[v8];rfl) hg
   ·cases h1
  ·refine .inr (.inl ⟨Mb hm.size h1,λs' t' ji hg=>?_⟩)
   rcases Bv s' t' b (Da.1 ji) hg with h3|h3
   ·omega
   ·exact h2 s0 t0 (by rw[l9];rfl) h3
  ·cases h1
 obtain⟨bh,fm⟩:=Af0 hm fk s w7 ⟨b0.a7,b0.es⟩ (m'.ν s0 t0) hz (by
  cases hν:m'.ν s0 t0 with
  |none=>rw[hν]at hblk;exact hblk
  |some g=>
   rw[hν]at hblk hR;obtain⟨h1,arr,e,h2,h3⟩:=hblk;refine⟨h1,arr,e,h2,λi cs hi j c hj=>?_⟩;obtain⟨u,hu,bu⟩:=h3 i cs hi j c hj;refine⟨u,hu,.rd ?_⟩;have Bm:=MF (Z6 s8 i cs hi) j c hj;have jx:Rd m'.w (safe m.w.heap.size (safe B S m false) m') c u:=by
    cases bu with
    |rd h=>exact h
    |_=>unfold AY at Bm;exact Bm.elim
   exact jx.clean hR Bm)
 refine hK _ ⟨j9 m s (m'.ν s0 t0),m.own.put s ((m.own s).new ⟨b0.a7,b0.es⟩),m'.w⟩ rfl bh fm (.ca (.one (.row s (m.own.j6 s) b0.a7 0 b0.es.length ad cap (by show m.own.j6 s<Own.j6 (m.own.put s _) s;rw[KP,if_pos rfl];omega) hz0 jn ha (λb1 ou=>?_) w7)));have Fm:(m.own.put s ((m.own s).new ⟨b0.a7,b0.es⟩)).get s (m.own.j6 s)=some b1:=ou;rw[FV,if_pos ⟨rfl,rfl⟩]at Fm;obtain rfl:=ga Fm;refine⟨rfl,?_⟩;rcases dp with h0|⟨g,arr,e,hg,js,hh,hle⟩
 ·exact .inl h0
 ·exact .inr ⟨g,arr,e,by simp[j9,hg],js,hh,hle⟩
theorem wD{p:Bool}{f g:Nat}{cs:w_}{v:Value}(h:CV B S m (.fn p f g cs) v)(hp:p=false\/cs=[]):∃vs:List Value,v = .func (.func g) #[] vs.toArray/\CL B S m cs vs:=by
 cases h with
 |ca h=>cases h with
  |one h=>cases h with
   |rd h=>cases h
  |fn p f g cs vs hp h=>exact⟨vs,rfl,h⟩
  |tf f g cs vs o7 h=>
   rcases hp with hp|hp
   ·cases hp
   ·exact absurd hp o7
theorem Ag5{f g:Nat}{cs:w_}{v:Value}(h:CV B S m (.fn true f g cs) v)(o7:cs≠[]):∃vs:List Value,v = .func (.func g) #[.agg vs.toArray] #[]/\CL B S m cs vs:=by
 cases h with
 |ca h=>cases h with
  |one h=>cases h with
   |rd h=>cases h
  |fn p f g cs vs hp h=>exact absurd (hp rfl) o7
  |tf f g cs vs o7 h=>exact⟨vs,rfl,h⟩
theorem Vq{f:Nat}{x:Operand}{xs:Array Operand}{ts:Array TypeId}{vs:Array Value}(o6:o.op = .call ⟨.value x,xs,ts⟩)(hx:a.eval x = .func (.func f) #[] vs){w:World}(h:(callFunc f (xs.map a.eval++vs)).run P w = .ok (.enter f (xs.map a.eval++vs)) w):(execOp a.eval o).run P w = .ok (.enter f (xs.map a.eval++vs)) w:=by
 simp[execOp,o6,resolve,Deferred.ofValue,hx,invoke];exact h
theorem AhC{C:Cl}{I:EL}(hC:HE I P num C B w0)(hm:BH B S w0 m)(hs:CB B S m ρ a.eval){x':AL}{xs':List AL}(h:A6 P num o.op (.u6 x' xs')=true){f:Nat}{cs:w_}(hf:ρ x' = .fn false f (num f) cs){r:AV}{o8:Own}(hr:C.fq f (xs'.map ρ++cs) m.own=some (r,o8)):CF B S w0 P o a m (.bz r o8):=by
 obtain⟨x,xs,ts,o6,nc,he⟩:=oM h;obtain⟨hl,hx⟩:=R3 hs he;obtain⟨vs,hv,s8⟩:=wD (hf▸hs x x' nc) (.inl rfl);have bg:(xs.map a.eval++vs.toArray)=(xs.toList.map a.eval++vs).toArray:=by cases xs;simp
 have dj:=hC.c.fq f (xs'.map ρ++cs) m.own r o8 hr B S w0 m (xs.toList.map a.eval++vs) hC.hB hC.hw hC.hD rfl hm (by simp[hl,s8.1]) (λj c v hc hv=>by
  by_cases hj:j<xs'.length
  ·rw[Fa (by simpa using hj),Oa]at hc
   rw[Fa (by simpa [hl]using hj),Oa]at hv;have Dl:j<xs.toList.length:=by rw[hl];exact hj
   rw[zE hj]at hc;rw[zE Dl]at hv;simp only[Aa,za]at hc hv;subst hc hv;exact hx j _ _ (zE Dl) (zE hj)
  ·rw[Ba (by simpa using hj),Hb]at hc
   rw[Ba (by simpa [hl]using hj),Hb,hl]at hv;exact .ca (.one (s8.2 _ c v hc hv)))
 intro K Q hK;unfold Oper.wp;rw[Vq o6 hv (hC.c.pt f _ _ _ hr _ _),bg];refine Calls.mono dj λe w' ⟨u,m',im,hw,hown,kg,fm,hcv⟩=>?_
 subst im hw;exact hK u m' hown kg fm hcv
theorem Ahz{C:Cl}{I:EL}(hC:HE I P num C B w0)(hm:BH B S w0 m)(hs:CB B S m ρ a.eval){x':AL}{xs':List AL}(h:A6 P num o.op (.u6 x' xs')=true){f:Nat}(hf:ρ x' = .fn true f (num f) []){vs:w_}{r:AV}(hv:(xs'.map ρ).mapM (CX m.own true)=some vs)(hr:C.pure f vs=some r):CF B S w0 P o a m (.val r):=by
 obtain⟨x,xs,ts,o6,nc,he⟩:=oM h;obtain⟨us,hu,s8⟩:=wD (hf▸hs x x' nc) (.inr rfl);have hu0:us=[]:=ea (by rw[<-s8.1];rfl);subst hu0;refine xA hC hm hs he (λw h=>?_) hv hr;have:=Vq (P:=P) (w:=w) o6 hu (by simpa using h)
 simpa using this
theorem AmY{f:Nat}{x:Operand}{xs:Array Operand}{ts:Array TypeId}{u:Value}(o6:o.op = .call ⟨.value x,xs,ts⟩)(hx:a.eval x = .func (.func f) #[u] #[]){w:World}(h:(callFunc f (#[u]++xs.map a.eval)).run P w = .ok (.enter f (#[u]++xs.map a.eval)) w):(execOp a.eval o).run P w = .ok (.enter f (#[u]++xs.map a.eval)) w:=by
 simp[execOp,o6,resolve,Deferred.ofValue,hx,invoke];exact h
theorem Ahy{C:Cl}{I:EL}(hC:HE I P num C B w0)(hm:BH B S w0 m)(hs:CB B S m ρ a.eval){x':AL}{xs':List AL}(h:A6 P num o.op (.u6 x' xs')=true){f:Nat}{c:AV}{cs:w_}(hf:ρ x' = .fn true f (num f) (c::cs)){vs:w_}{r:AV}(hv:(AV.agg (c::cs)::xs'.map ρ).mapM (CX m.own true)=some vs)(hr:C.pure f vs=some r):CF B S w0 P o a m (.val r):=by
 obtain⟨x,xs,ts,o6,nc,he⟩:=oM h;obtain⟨us,hu,s8⟩:=Ag5 (hf▸hs x x' nc) Z';obtain⟨hl,hx⟩:=R3 hs he;have bg:(#[Value.agg us.toArray]++xs.map a.eval)=(Value.agg us.toArray::xs.toList.map a.eval).toArray:=by cases xs;simp
 refine xB hC hm (us:=Value.agg us.toArray::xs.toList.map a.eval) (as:=AV.agg (c::cs)::xs'.map ρ) (by simp[hl]) (λj v c' h1 h2=>?_) (λw h=>by
  rw[<-bg]at h⊢;exact AmY o6 hu h) hv hr
 cases j with
 |zero=>
  simp only[List.getElem?_cons_zero,za]at h1 h2;subst h1 h2;exact .ca (.agg _ _ s8)
 |succ j=>
  rw[List.getElem?_cons_succ,Oa]at h1 h2;cases lz:xs.toList[j]? with
  |none=>simp[lz]at h1
  |some x=>
   cases pd:xs'[j]? with
   |none=>simp[pd]at h2
   |some y=>
    simp only[lz,pd,Aa,za]at h1 h2;subst h1 h2;exact hx j x y lz pd
theorem Rd.to1{w:World}{R R':Bool->Nat->Prop}(hR:∀l b,b<w.heap.size->R l b->∀l',R' l' b){c:AV}{v:Value}(h:Rd w R c v)(hq:GZ c=true):Rd w R' (ZE c) v:=by
 cases h with
 |int k n=>exact .int k n
 |bool b=>exact .bool b
 |str s=>simp[GZ]at hq
 |ml=>simp[GZ]at hq
 |mn=>simp[GZ]at hq
 |emp=>simp[GZ]at hq
 |jb l a cap=>exact .jb false a cap
 |sl l es b o a7 cap u o7 hp h1 bq hz s8 hr=>
  obtain⟨e,c,he,dz⟩:=aQ o7 hp hz;have hb:b<w.heap.size:=RS (s8 0 e he 0 c dz);exact .sl false es b o a7 cap u o7 hp (hR l b hb h1 false) bq hz s8 λi e he j c hj=>(hr i e he j c hj).mono (λl b hb h=>hR l b hb h l) (λ_ _ _ _=>rfl)
theorem Rd.zk{w:World}{R R':Bool->Nat->Prop}(hR:∀b,b<w.heap.size->R false b->R' true b){c:AV}{v:Value}(h:Rd w R c v)(hc:AY c)(hf:ZO c):Rd w R' (bC c) v:=by
 cases h with
 |int k n=>exact .int k n
 |bool b=>exact .bool b
 |str s=>exact hf.elim
 |ml=>exact hf.elim
 |mn=>exact hf.elim
 |emp=>exact hf.elim
 |jb l a cap=>exact .jb true a cap
 |sl l es b o a7 cap u o7 hp h1 bq hz s8 hr=>
  unfold AY at hc;obtain⟨rfl,hc⟩:=hc;obtain⟨e,c,he,dz⟩:=aQ o7 hp hz;have hb:b<w.heap.size:=RS (s8 0 e he 0 c dz);refine .sl true es b o a7 cap u o7 hp (hR b hb h1) bq hz s8 λi e he j c hj=>?_
  have Gr:=hf e (zM he) c (zM hj);have Ci:=hr i e he j c hj;generalize u i j=vv at Ci⊢;cases Ci<;>first|exact .int _ _|exact .bool _|(simp[Q9]at Gr)
theorem oX:∀l:w_,I9 l=l.map HM
 |[]=>by simp[I9]
 |c::r=>by rw[I9,oX r];rfl
theorem Us:∀l:v_,IM l=l.map λe=>e.map HM
 |[]=>by simp[IM]
 |c::r=>by rw[IM,Us r,oX];rfl
theorem Rd.zl{w:World}{R R':Bool->Nat->Prop}(hR:∀b,b<w.heap.size->R false b->R' true b){c:AV}{v:Value}(h:Rd w R c v):AY c->Rd w R' (HM c) v:=by
 induction h with
 |int k n=>intro _;exact .int k n
 |bool b=>intro _;exact .bool b
 |str s=>intro _;exact .str s
 |ml=>intro _;exact .ml
 |mn=>intro _;exact .mn
 |emp b a cap h=>intro _;exact .emp b a cap h
 |jb l a cap=>intro _;exact .jb true a cap
 |sl l es b o a7 cap u o7 hp h1 bq hz s8 hr ih=>
  intro hc;unfold AY at hc;obtain⟨rfl,hc⟩:=hc;obtain⟨e,c,he,dz⟩:=aQ o7 hp hz;have hb:b<w.heap.size:=RS (s8 0 e he 0 c dz);have fw:∀(i:Nat)(e':w_),(es.map λe:w_=>e.map HM)[i]?=some e'->∃e,es[i]?=some e/\e'=e.map HM:=λi e' h=>by
   rw[Oa]at h;cases hi:es[i]? with
   |none=>simp[hi]at h
   |some e=>exact⟨e,rfl,by simpa [hi]using h.symm⟩
  have Fl:∀(e:w_)(j:Nat)(c':AV),(e.map HM)[j]?=some c'->∃c,e[j]?=some c/\c'=HM c:=λe j c' h=>by
   rw[Oa]at h;cases hi:e[j]? with
   |none=>simp[hi]at h
   |some c=>exact⟨c,rfl,by simpa [hi]using h.symm⟩
  have key:=Rd.sl (w:=w) (R:=R') true (es.map λe:w_=>e.map HM) b o a7 cap u (by simpa using o7) hp (hR b hb h1) (by simpa using bq)
   (λe' im=>by
    obtain⟨e,he,rfl⟩:=Fb.1 im;rw[Hb];exact hz e he)
   (λi e' hi j c' hj=>by
    obtain⟨e,he,rfl⟩:=fw i e' hi;obtain⟨c,Df,rfl⟩:=Fl e j c' hj;exact s8 i e he j c Df)
   (λi e' hi j c' hj=>by
    obtain⟨e,he,rfl⟩:=fw i e' hi;obtain⟨c,Df,rfl⟩:=Fl e j c' hj;exact ih i e he j c Df (MF (Z6 hc i e he) j c Df))
  rw[Hb]at key;rw[HM,Us];exact key
theorem AhA{C:Cl}{I:EL}(hC:HE I P num C B w0)(hm:BH B S w0 m)(hs:CB B S m ρ a.eval){f:Nat}{xs':List AL}(h:A6 P num o.op (.o5 f xs')=true)(hq:(xs'.map ρ).all dq=true){r:AV}(hr:C.pure f ((xs'.map ρ).map wz)=some r)(Mr:KI r\/U3 r):CF B S w0 P o a m (.val (NV r)):=by
 obtain⟨xs,ts,o6,he⟩:=gO (AkN h);obtain⟨hl,hx⟩:=R3 hs he;have bg:(xs.map a.eval)=(xs.toList.map a.eval).toArray:=by cases xs;simp
 have hR:∀l b,b<m.w.heap.size->safe B S m l b->∀l',safe m.w.heap.size (safe B S m true) ⟨λ_ _=>none,Own.emp,m.w⟩ l' b:=λl b hb h l'=>.inl ⟨rK h,hb⟩
 have hcell:∀(c:AV)(v:Value),CC B S m c v->GZ c=true->Rd m.w (safe m.w.heap.size (safe B S m true) ⟨λ_ _=>none,Own.emp,m.w⟩) (ZE c) v:=λc v hc hd=>by
  cases hc with
  |rd hr=>exact hr.to1 hR hd
  |nil=>exact .jb false none 0
  |row=>simp[GZ]at hd
  |ptr=>simp[GZ]at hd
  |mp=>simp[GZ]at hd
  |x9=>simp[GZ]at hd
 have lg:∀(j:Nat)(c:AV)(v:Value),((xs'.map ρ).map wz)[j]?=some c->(xs.toList.map a.eval)[j]?=some v->CA m.w.heap.size (safe B S m true) ⟨λ_ _=>none,Own.emp,m.w⟩ c v:=by
  intro j c v hc pc;rw[Oa,Oa]at hc;rw[Oa]at pc;cases lz:xs.toList[j]? with
  |none=>simp[lz]at pc
  |some x=>
   cases pd:xs'[j]? with
   |none=>simp[pd]at hc
   |some y=>
    simp[lz]at pc;simp[pd]at hc;subst pc hc;have hcv:=hx j x y lz pd;have hd:dq (ρ y)=true:=Hc.1 hq _ (List.mem_map_of_mem (zM pd));generalize ρ y=cy at hcv hd⊢;generalize a.eval x=vx at hcv⊢;cases hcv with
    |any=>simp[dq,GZ]at hd
    |j4=>simp[dq,GZ]at hd
    |ca qw=>
     cases qw with
     |one De=>
      have ox:GZ cy=true/\wz cy=ZE cy:=by
       cases De with
       |rd hr=>cases hr<;>exact⟨hd,rfl⟩
       |_=>exact⟨hd,rfl⟩
      rw[ox.2];exact .one (.rd (hcell _ _ De ox.1))
     |agg cs vs s8=>
      refine .agg (cs.map ZE) vs ⟨by simpa using s8.1,λk c' v' y6 ij=>?_⟩;rw[Oa]at y6;cases hck:cs[k]? with
      |none=>simp[hck]at y6
      |some c0=>
       simp[hck]at y6;subst y6;exact .rd (hcell c0 v' (s8.2 k c0 v' hck ij) (Hc.1 hd _ (zM hck)))
     |fn=>simp[dq,GZ]at hd
     |tf=>simp[dq,GZ]at hd
 have dj:=hC.c.pure f _ r hr (safe B S m true) m.w (xs.toList.map a.eval) (hC.ok hm) (by simp[hl]) lg;intro K Q hK;unfold Oper.wp;rw[Y2 o6 (hC.c.px f _ r hr _ _),bg];refine Calls.mono dj λe w' ⟨u,im,fk,hcv,s8⟩=>?_
 subst im;obtain⟨kg,fm⟩:=grow hm (fk.Ib hC.hD);refine hK u ⟨m.ν,m.own,w'⟩ rfl kg fm ?_;have fg:∀b,b<w'.heap.size->safe m.w.heap.size (safe B S m true) ⟨λ_ _=>none,Own.emp,w'⟩ false b->safe B S ⟨m.ν,m.own,w'⟩ true b:=λb hb vn=>by
  rcases vn with⟨h1,h2⟩|⟨h1,_⟩|⟨h1,_⟩
  ·exact fm.Ap true b h2 h1
  ·refine .inr (.inl ⟨Mb hm.size h1,λs t ji hg=>?_⟩)
   obtain⟨b',j8⟩:=Da.1 ji;obtain⟨_,x0,hh⟩:=hm.ge ⟨b',j8⟩ hg;have:=(sa.1 hh).1
   omega
  ·cases h1
 by_cases iq:KI r
 ·rw[pA iq]
  rcases lQ hcv s8 with wm|⟨cs,vs,rfl,_⟩
  ·rcases wm with jx|⟨cs,vs,rfl,rfl,iu,hh⟩
   ·have e1:zd r=bC r/\ZO r:=by cases jx<;>exact⟨rfl,iq⟩
    rw[show B3.valOf (.val (zd r)) m.own=zd r from rfl,e1.1];exact .ca (.one (.rd (jx.zk fg s8 e1.2)))
   ·unfold AY at s8
    refine .ca (.agg (cs.map bC) vs ⟨by simpa using iu,λk c' v' y6 ij=>?_⟩);rw[Oa]at y6;cases hck:cs[k]? with
    |none=>simp[hck]at y6
    |some c0=>
     simp[hck]at y6;subst y6;exact .rd ((hh k c0 v' hck ij).zk fg (MF s8 k c0 hck) (iq c0 (zM hck)))
  ·exact iq.elim
 ·rw[oZ iq]
  have hd:=Mr.resolve_left iq;have ko:∀{r:AV}{v:Value},DA w' (safe m.w.heap.size (safe B S m true) ⟨λ_ _=>none,Own.emp,w'⟩) r v->AY r->CA B S ⟨m.ν,m.own,w'⟩ (J5 r) v:=λ{r v} wm s8=>by
   rcases wm with jx|⟨cs,vs,rfl,rfl,iu,hh⟩
   ·have e1:J5 r=HM r:=by cases jx<;>rfl
    rw[e1];exact .one (.rd (jx.zl fg s8))
   ·unfold AY at s8
    rw[show J5 (.agg cs) = .agg (I9 cs)from rfl,oX];refine .agg (cs.map HM) vs ⟨by simpa using iu,λk c' v' y6 ij=>?_⟩;rw[Oa]at y6;cases hck:cs[k]? with
    |none=>simp[hck]at y6
    |some c0=>
     simp[hck]at y6;subst y6;exact .rd ((hh k c0 v' hck ij).zl fg (MF s8 k c0 hck))
  rcases lQ hcv s8 with wm|⟨cs,vs,rfl,rfl,iu,hh⟩
  ·have e1:LV r=J5 r:=by
    rcases wm with jx|⟨cs,vs,rfl,_⟩
    ·cases jx<;>rfl
    ·rfl
   rw[show B3.valOf (.val (LV r)) m.own=LV r from rfl,e1];exact .ca (ko wm s8)
  ·unfold AY at s8
   rw[show B3.valOf (.val (LV (.j4 cs))) m.own = .j4 (cs.map J5)from rfl];refine .j4 (cs.map J5) vs (by simpa using iu) λk c' v' y6 ij=>?_
   rw[Oa]at y6;cases hck:cs[k]? with
   |none=>simp[hck]at y6
   |some c0=>
    simp[hck]at y6;subst y6;exact ko (hh k c0 v' hck ij) (MF s8 k c0 hck)
end
end Go.Eng

namespace Go.Eng
open Go.RowKit
theorem cH{s t:ByteArray}:L4 s t=true↔s=t:=by
 unfold L4;rw[beq_iff_eq];constructor
 ·intro h
  cases s with
  |mk a=>cases t with
   |mk b=>exact congrArg _ (Array.ext' h)
 ·rintro rfl;rfl
theorem AnJ{s t:ByteArray}:L4 s t=false↔s≠t:=by
 rw[Ne,<-cH];simp
def JN(v:Value):Option (DataW Unit×List MemPlace):=match v with
 |.int .i64 n=>if(Lit.int .i64 n).wf=true then some (.lit (.int .i64 n),[])else none
 |_=>none
section
variable {P:Program} {k:TypeId} {es:Array MapEntry} {clock:Nat} {l:v_}
theorem LO.Ay(h:LO es clock l){x:MapEntry}(hx:x∈es.toList):∃(s:ByteArray) (n:Int),x.key = .string s/\x.val = .int .i64 n/\s.size<=maxLen/\(Lit.int .i64 n).wf=true/\[AV.x7 (.string s),.int .i64 n]∈l:=by
 obtain⟨_,_,h3,h4⟩:=h;have hm:(x.key,x.val)∈l.map NP:=h3.mem_iff.1 (Fb.2 ⟨x,hx,rfl⟩);obtain⟨c,hc,e⟩:=Fb.1 hm;obtain⟨s,n,rfl,hs,hn⟩:=h4 c hc;simp only[NP,Nf]at e;exact⟨s,n,e.1.symm,e.2.symm,hs,hn,hc⟩
theorem LO.mem(h:LO es clock l){s:ByteArray}{n:Int}(hc:[AV.x7 (.string s),.int .i64 n]∈l):∃x∈es.toList,x.key = .string s/\x.val = .int .i64 n:=by
 obtain⟨_,_,h3,_⟩:=h;have hm:((Value.string s,Value.int .i64 n):Value×Value)∈l.map NP:=Fb.2 ⟨_,hc,rfl⟩;obtain⟨x,hx,e⟩:=Fb.1 (h3.mem_iff.2 hm);simp only[Nf]at e;exact⟨x,hx,e.1,e.2⟩
theorem LO.fit(hk:P.underlying k=some .string)(h:LO es clock l)(hl:l.length<=maxLen):WideElems.Fit P k JN es clock:=by
 refine⟨Mb h.2.1 hl,h.1,λx hx=>?_⟩;obtain⟨s,n,e1,e2,hs,hn,_⟩:=h.Ay hx;refine⟨(.string s.data.toList,.lit (.int .i64 n)),?_⟩;simp[WideElems.rd,e1,e2,WideMaps.keyOf_string_mk hk hs,JN,hn]
theorem LO.nodup(h:LO es clock l):((l.map NP).map Pf).Nodup:=by
 obtain⟨h1,_,h3,_⟩:=h;have:=(h3.map Pf).nodup_iff.1 (by
  rw[ze];exact h1.2.2)
 exact this
theorem Sz:∀{l:v_}{b:ByteArray},(∀n:Int,[AV.x7 (.string b),.int .i64 n] ∉ l)->G1 l b=none
 |[],_,_=>rfl
 |c::r,b,h=>by
  have ih:=Sz (l:=r) (b:=b) λn hn=>h n (ke _ hn)
  unfold G1;split
  ·rename_i s n
   cases e:L4 s b
   ·exact ih
   ·obtain rfl:=cH.1 e
    exact absurd Le (h n)
  ·exact ih
theorem Ta:∀{l:v_}{b:ByteArray}{n:Int},((l.map NP).map Pf).Nodup->[AV.x7 (.string b),.int .i64 n]∈l->G1 l b=some n
 |c::r,b,n,hnd,h=>by
  rw[rb,rb,List.nodup_cons]at hnd;rcases Ac.1 h with rfl|hr
  ·unfold G1
   simp[cH.2 rfl]
  ·have ih:=Ta (l:=r) hnd.2 hr
   clear h;unfold G1;split
   ·rename_i s n'
    cases e:L4 s b
    ·exact ih
    ·obtain rfl:=cH.1 e
     refine absurd ?_ hnd.1;exact Fb.2 ⟨_,Fb.2 ⟨_,hr,rfl⟩,rfl⟩
   ·exact ih
end
section
variable {B:Nat} {S:Nat->Prop} {w0:F2} {m:M}
theorem Al1(hm:BH B S w0 m)(s:Nat)(w7:D9<=s) :
  BH B S w0 ⟨j9 m s (some m.w.heap.size),m.own.put s ((m.own s).new ⟨2,[]⟩),m.w.alloc (.map #[] 0)⟩ /\
  CU B S m ⟨j9 m s (some m.w.heap.size),m.own.put s ((m.own s).new ⟨2,[]⟩),m.w.alloc (.map #[] 0)⟩:=by
 have hsz:(m.w.alloc (.map #[] 0)).heap.size=m.w.heap.size+1:=Z'
 have hν:∀s' t',live m s' t'->j9 m s (some m.w.heap.size) s' t'=m.ν s' t':=λs' t' hl=>by
  unfold j9;rw[if_neg];rintro⟨rfl,rfl⟩
  exact bI hm _ hl
 have he:CU B S m ⟨j9 m s (some m.w.heap.size),m.own.put s ((m.own s).new ⟨2,[]⟩),m.w.alloc (.map #[] 0)⟩:=by
  refine OL hm (by rw[hsz];omega) (λk hk _=>Below.heap_alloc _ _ _ hk) (λs'=>?_) (λs' t' b' ht j8=>?_) (λs' t' g hl hg hlt=>?_)
  ·rw[KP];split
   ·rename_i h;subst h;omega
   ·exact Ma _
  ·rw[FV]at j8
   rw[if_neg (by rintro⟨rfl,rfl⟩;omega)]at j8;refine⟨b',j8,rfl,hν s' t' ⟨b',j8⟩,λg ar e' hg ha=>⟨ar,?_,rfl⟩⟩;exact(Below.heap_alloc _ _ _ (sa.1 ha).1).trans ha
  ·obtain⟨b',j8⟩:=hl
   have v8:=j8;rw[FV]at j8;by_cases h:s'=s/\t'=m.own.j6 s
   ·simp only[j9,if_pos h,za]at hg
    omega
   ·rw[if_neg h]at j8
    exact⟨s',t',⟨b',j8⟩,by rw[<-hν s' t' ⟨b',j8⟩];exact hg⟩
 refine⟨⟨hm.below.alloc hm.size _,by rw[hsz];have:=hm.size;omega,λs' t' ht=>?_,λs' t' b' j8=>?_,λs1 t1 s2 t2 b1 b2 g h1 h2 g1 g2=>?_⟩,he⟩
 ·rw[KP]at ht
  rw[FV,if_neg]
  ·refine hm.fresh s' t' ?_
   split at ht
   ·rename_i h;subst h;omega
   ·exact ht
  ·rintro⟨rfl,rfl⟩
   simp at ht;omega
 ·rw[FV]at j8
  by_cases h:s'=s/\t'=m.own.j6 s
  ·rw[if_pos h]at j8
   obtain rfl:(⟨2,[]⟩:C2)=b':=by simpa using j8
   refine⟨λic=>by have:=h.1;omega,λ_=>⟨m.w.heap.size,#[],0,by simp[j9,h],hm.size,heap_alloc_new _ _,MapKept.stamped_empty 0,Ma _,List.Perm.refl _,λc hc=>by cases hc⟩⟩
  ·rw[if_neg h]at j8
   exact(hm.c9 s' t' b' j8).ext he (hν s' t' ⟨b',j8⟩) λg x _ hx=>(Below.heap_alloc _ _ _ (sa.1 hx).1).trans hx
 ·rw[FV]at h1 h2
  have lt:∀s' t' b',m.own.get s' t'=some b'->j9 m s (some m.w.heap.size) s' t'=some g->g<m.w.heap.size:=λs' t' b' hb hg=>by
   rw[hν s' t' ⟨b',hb⟩]at hg;obtain⟨_,x,h4⟩:=hm.ge ⟨b',hb⟩ hg;exact(sa.1 h4).1
  have at_:∀s' t',s'=s/\t'=m.own.j6 s->j9 m s (some m.w.heap.size) s' t'=some g->g=m.w.heap.size:=λs' t' h hg=>by
   simp only[j9,if_pos h,za]at hg;exact hg.symm
  by_cases p1:s1=s/\t1=m.own.j6 s<;>by_cases p2:s2=s/\t2=m.own.j6 s
  ·exact⟨p1.1.trans p2.1.symm,p1.2.trans p2.2.symm⟩
  ·rw[if_neg p2]at h2
   have:=lt s2 t2 b2 h2 g2
   have:=at_ s1 t1 p1 g1
   omega
  ·rw[if_neg p1]at h1
   have:=lt s1 t1 b1 h1 g1
   have:=at_ s2 t2 p2 g2
   omega
  ·rw[if_neg p1]at h1
   rw[if_neg p2]at h2;exact hm.inj s1 t1 s2 t2 b1 b2 g h1 h2 (by rw[<-hν s1 t1 ⟨b1,h1⟩];exact g1) (by rw[<-hν s2 t2 ⟨b2,h2⟩];exact g2)
theorem An6(hm:BH B S w0 m)(s t:Nat)(w7:D9<=s)(b b':C2)(hb:m.own.get s t=some b)(g:Nat)(hg:m.ν s t=some g)(es es':Array MapEntry)(clock ak:Nat)
  (ha:m.w.heap[g]?=some (.map es clock)) (Pa:b'.a7=b.a7) (bg:LO es' ak b'.es) (w':World) (fk:DL w0.D B w0.w w') (od:w'.heap.size=m.w.heap.size)
  (hk:∀k,k≠g->w'.heap[k]?=m.w.heap[k]?) (Jf:w'.heap[g]?=some (.map es' ak)) :
  BH B S w0 ⟨m.ν,m.own.put s ((m.own s).q9 t (some b')),w'⟩/\CU B S m ⟨m.ν,m.own.put s ((m.own s).q9 t (some b')),w'⟩:=by
 have he:CU B S m ⟨m.ν,m.own.put s ((m.own s).q9 t (some b')),w'⟩:=by
  refine OL hm (by rw[od];exact Ma _) (λk jg hn=>hk k (λe=>hn s t ⟨b,hb⟩ (e▸hg))) (λs'=>by rw[XZ];exact Ma _) (λs' t' b2 ht v8=>?_) (λs' t' g' hl da _=>?_)
  ·rw[LU]at v8
   by_cases h:s'=s/\t'=t
   ·obtain⟨rfl,rfl⟩:=h
    rw[if_pos ⟨rfl,rfl⟩]at v8;obtain rfl:b'=b2:=by simpa using v8
    refine⟨b,hb,Pa,rfl,λg2 ar e' je qu=>?_⟩;obtain rfl:g=g2:=by rw[hg]at je;simpa using je
    rw[ha]at qu;cases qu
   ·rw[if_neg h]at v8
    refine⟨b2,v8,rfl,rfl,λg2 ar e' je qu=>⟨ar,?_,rfl⟩⟩;rw[<-qu];exact hk g2 (λe2=>h (by
     subst e2;exact hm.inj s' t' s t b2 b g2 v8 hb je hg))
  ·obtain⟨b2,v8⟩:=hl
   rw[LU]at v8;by_cases h:s'=s/\t'=t
   ·obtain⟨rfl,rfl⟩:=h
    exact⟨s',t',⟨b,hb⟩,da⟩
   ·rw[if_neg h]at v8
    exact⟨s',t',⟨b2,v8⟩,da⟩
 have hlt:t<m.own.j6 s:=by
  rcases Db t (m.own.j6 s)with h|h
  ·exact h
  ·rw[hm.fresh s t h]at hb;cases hb
 refine⟨⟨fk,by rw[od];exact hm.size,λs' t' ht=>?_,λs' t' b2 v8=>?_,λs1 t1 s2 t2 b1 b2 g1 h1 h2 e1 e2=>?_⟩,he⟩
 ·rw[XZ]at ht
  rw[LU,if_neg (by rintro⟨rfl,rfl⟩;omega)];exact hm.fresh s' t' ht
 ·rw[LU]at v8
  by_cases h:s'=s/\t'=t
  ·obtain⟨rfl,rfl⟩:=h
   rw[if_pos ⟨rfl,rfl⟩]at v8;obtain rfl:b'=b2:=by simpa using v8
   exact⟨λic=>O',λ_=>⟨g,es',ak,hg,(hm.ge ⟨b,hb⟩ hg).1,Jf,bg⟩⟩
  ·rw[if_neg h]at v8
   exact(hm.c9 s' t' b2 v8).ext he rfl λg2 x hv hx=>(hk g2 (λe2=>h (by
    subst e2;exact hm.inj s' t' s t b2 b g2 v8 hb hv hg))).trans hx
 ·have old:∀s' t' b2,(m.own.put s ((m.own s).q9 t (some b'))).get s' t'=some b2->∃b3,m.own.get s' t'=some b3:=λs' t' b2 h=>by
   rw[LU]at h;by_cases h':s'=s/\t'=t
   ·obtain⟨rfl,rfl⟩:=h';exact⟨b,hb⟩
   ·rw[if_neg h']at h;exact⟨b2,h⟩
  obtain⟨c1,k1⟩:=old s1 t1 b1 h1;obtain⟨c2,k2⟩:=old s2 t2 b2 h2;exact hm.inj s1 t1 s2 t2 c1 c2 g1 k1 k2 e1 e2
theorem wE{s t:Nat}{v:Value}(h:CV B S m (.mp s t) v):∃g,v = .map (some g)/\(∀b,m.own.get s t=some b->m.ν s t=some g)/\D9<=s/\t<m.own.j6 s:=by
 cases h with
 |ca h=>cases h with
  |one h=>cases h with
   |rd h=>cases h
   |mp _ _ g ht hb hs=>exact⟨g,rfl,hb,hs,ht⟩
theorem wF{b:ByteArray}{v:Value}(h:CV B S m (.x7 (.string b)) v):v = .string b:=by
 cases h with
 |ca h=>cases h with
  |one h=>cases h with
   |rd h=>cases h;rfl
end
section
variable {P:Program} {k:TypeId} {es es':Array MapEntry} {clock ak:Nat} {l:v_}
def X0(p:Value×Value):Lit×DataW Unit:=match p with
 |(.string s,.int .i64 n)=>(.string s.data.toList,.lit (.int .i64 n))
 |_=>(.bool false,.nil)
def X5(p:Lit×DataW Unit):Value×Value:=match p with
 |(.string l,.lit (.int .i64 n))=>(.string ⟨l.toArray⟩,.int .i64 n)
 |_=>(.bool false,.bool false)
theorem rA(hk:P.underlying k=some .string){x:MapEntry}{s:ByteArray}{n:Int}(e1:x.key = .string s)(e2:x.val = .int .i64 n)(hs:s.size<=maxLen)(hn:(Lit.int .i64 n).wf=true):WideElems.rg P k JN x=(.string s.data.toList,.lit (.int .i64 n)) :=
 WideElems.rg_of (by simp[WideElems.rd,e1,e2,WideMaps.keyOf_string_mk hk hs,JN,hn])
theorem Al4{b s:ByteArray}{d:DataW Unit}:ChangeMaps.notKey (.string b.data.toList) ((.string s.data.toList,d):Lit×DataW Unit) = !L4 s b:=by
 unfold ChangeMaps.notKey L4;simp[Lit.sameKey]
theorem LO.put(hk:P.underlying k=some .string)(h:LO es clock l)(hl:l.length<maxLen){b:ByteArray}{n:Int}(hb:b.size<=maxLen)(hn:(Lit.int .i64 n).wf=true)(F':WideElems.Fit P k JN es' ak)
  (hs:(es'.toList.map (WideElems.rg P k JN)).foldr DataW.insert []=ChangeMaps.putKey (.string b.data.toList) (.lit (.int .i64 n)) ((es.toList.map (WideElems.rg P k JN)).foldr DataW.insert []))
  (gp:∀x'∈es'.toList,(x'∈es.toList/\x'.key ≠ .string b)\/(x'.key = .string b/\x'.val = .int .i64 n)):LO es' ak (SY l b n):=by
 have w1:∀x∈es.toList,WideElems.rg P k JN x=X0 (x.key,x.val):=λx hx=>by
  obtain⟨s,n',e1,e2,h1,h2,_⟩:=h.Ay hx;rw[rA hk e1 e2 h1 h2,e1,e2];rfl
 have w2:∀x∈es'.toList,X5 (WideElems.rg P k JN x)=(x.key,x.val):=λx hx=>by
  rcases gp x hx with⟨hx,_⟩|⟨e1,e2⟩
  ·obtain⟨s,n',e1,e2,h1,h2,_⟩:=h.Ay hx
   rw[rA hk e1 e2 h1 h2,e1,e2];rfl
  ·rw[rA hk e1 e2 hb hn,e1,e2];rfl
 have p1:(es'.toList.map (WideElems.rg P k JN)).Perm ((.string b.data.toList,.lit (.int .i64 n))::(es.toList.map (WideElems.rg P k JN)).filter (ChangeMaps.notKey (.string b.data.toList))):=by
  refine(WideShapes.sorted_perm _).symm.trans ?_;rw[hs];exact(WideShapes.insert_perm _ _).trans (((WideShapes.sorted_perm _).filter _).cons _)
 have p2:((es.toList.map (WideElems.rg P k JN)).filter (ChangeMaps.notKey (.string b.data.toList))).Perm (((l.map NP).map X0).filter (ChangeMaps.notKey (.string b.data.toList))):=by
  refine List.Perm.filter _ ?_;rw[Lb w1,show(es.toList.map λx=>X0 (x.key,x.val))=(es.toList.map λx=>(x.key,x.val)).map X0 by rw[ze];rfl];exact h.2.2.1.map _
 have p3:∀l':v_,(∀c∈l',∃(s:ByteArray) (n:Int),c=[.x7 (.string s),.int .i64 n]/\s.size<=maxLen/\(Lit.int .i64 n).wf=true)->(((l'.map NP).map X0).filter (ChangeMaps.notKey (.string b.data.toList))).map X5=(l'.filter λc=>!zi b c).map NP:=by
  intro l';induction l' with
  |nil=>intro _;rfl
  |cons c r ih=>
   intro hc;obtain⟨s,n',rfl,_,_⟩:=hc c Le;have ih:=ih λc h=>hc c (ke _ h)
   have e:ChangeMaps.notKey (.string b.data.toList) (X0 (NP [.x7 (.string s),.int .i64 n'])) = !L4 s b:=Al4;have e2:zi b [.x7 (.string s),.int .i64 n']=L4 s b:=rfl;simp only[rb,List.filter_cons,e,e2];cases L4 s b
   ·simp only[Bool.not_false,if_true,rb,ih]
    rfl
   ·simp only[Bool.not_true,zb,if_false]
    exact ih
 have p4:(es'.toList.map λx=>(x.key,x.val)).Perm ((SY l b n).map NP):=by
  rw[<-Lb w2,show(es'.toList.map λx=>X5 (WideElems.rg P k JN x))=(es'.toList.map (WideElems.rg P k JN)).map X5 by rw[ze];rfl];refine(p1.map X5).trans ?_;rw[rb];refine((p2.map X5).cons _).trans ?_;rw[p3 l h.2.2.2];exact List.Perm.refl _
 refine⟨F'.stamped,?_,p4,λc hc=>?_⟩
 ·have:=p4.length_eq
  rw[Hb,Hb]at this;rw[<-this];simp
 ·rcases Ac.1 hc with rfl|hc
  ·exact⟨b,n,rfl,hb,hn⟩
  ·exact h.2.2.2 c (List.mem_filter.1 hc).1
end
section
variable {B:Nat} {S:Nat->Prop} {w0:F2} {m:M} {P:Program} {num:Nat->Nat} {o:Oper} {a:Act} {ρ:AL->AV}
theorem Sv{t:TypeId}(h:bD P t=true):∃k e,P.underlying t=some (.map k e)/\P.underlying k=some .string/\P.underlying e=some (.int .i64)/\∀w,(zeroValue e).run P w = .ok (.int .i64 0) w:=by
 unfold bD at h;split at h
 ·rename_i k e ht
  simp only[ya]at h;obtain⟨⟨h1,h2⟩,h3⟩:=h;refine⟨k,e,ht,?_,?_,λw=>?_⟩
  ·split at h1
   ·assumption
   ·cases h1
  ·split at h2
   ·assumption
   ·cases h2
  ·split at h3
   ·rename_i i hi
    split at h3
    ·rename_i n hz
     obtain rfl:n=0:=by simpa using h3
     simp[zeroValue,typeInfo,hi,hz]
    ·cases h3
   ·cases h3
 ·cases h
theorem AhS(hm:BH B S w0 m){s:Nat}(h:A6 P num o.op (.pj s)=true):CF B S w0 P o a m (.bz (.mp s (m.own.j6 s)) (m.own.put s ((m.own s).new ⟨2,[]⟩))):=by
 simp only[A6,ya]at h;obtain⟨h1,h2⟩:=h;have w7:D9<=s:=by simpa [Nat.ble_eq]using h1
 split at h2
 ·rename_i t o6
  obtain⟨k1,k2⟩:=Al1 hm s w7;intro K Q hK;refine N7 (u := .map (some m.w.heap.size)) (w':=m.w.alloc (.map #[] 0)) ?_ (hK _ ⟨j9 m s (some m.w.heap.size),m.own.put s ((m.own s).new ⟨2,[]⟩),m.w.alloc (.map #[] 0)⟩ rfl k1 k2 (.ca (.one (.mp s (m.own.j6 s) _ ?_ (λb hb=>?_) w7))))
  ·simp[execOp,o6,run_makeMap]
  ·show _<Own.j6 _ s
   rw[KP];simp
  ·simp[j9]
 ·cases h2
theorem AhT(hm:BH B S w0 m)(hs:CB B S m ρ a.eval){x' k':AL}(h:A6 P num o.op (.ql x' k')=true){s t:Nat}(hx:ρ x' = .mp s t){b:ByteArray}(jm:ρ k' = .x7 (.string b)){c9:C2}(l9:m.own.get s t=some c9)(hb:b.size<=maxLen)(hl:c9.es.length<=maxLen) :
  CF B S w0 P o a m (.val (.j4 [.int .i64 ((G1 c9.es b).getD 0),.bool (G1 c9.es b).isSome])):=by
 simp only[A6]at h;split at h
 ·rename_i ty x k o6
  simp only[ya]at h;obtain⟨⟨h1,h2⟩,h3⟩:=h;obtain⟨kt,et,hT,hK,hE,hZ⟩:=Sv h1;obtain⟨g,hv,yc,w7,_⟩:=wE (hx▸hs x x' h2);have Na:=wF (jm▸hs k k' h3);obtain⟨g',es,clock,e1,_,hh,bg⟩:=(hm.c9 s t c9 l9).2 w7;obtain rfl:g'=g:=ga (e1.symm.trans (yc c9 l9));have w5:∃n ok,(Instr.lookup ty (.map (some g')) (.string b) true).run P m.w = .ok (.tuple #[.int .i64 n,.bool ok]) m.w/\n=(G1 c9.es b).getD 0/\ok=(G1 c9.es b).isSome:=by
   rcases Maps.fit_look true (Maps.string_keyed hK) hT (hZ m.w) hh (bg.fit hK hl) (WideMaps.keyOf_string_mk hK hb)with⟨hr,o7,_⟩|⟨e0,y,Fx,Jj,hr,_,_,_⟩
   ·have iz:G1 c9.es b=none:=Sz λn hn=>by
     obtain⟨x,hx,hxk,_⟩:=bg.mem hn;exact o7 x hx hxk
    refine⟨0,false,by simpa using hr,by rw[iz];rfl,by rw[iz];rfl⟩
   ·obtain⟨s0,n0,q1,q2,_,_,q3⟩:=bg.Ay Fx
    obtain rfl:s0=b:=by
     rw[q1]at Jj;exact Value.string.inj Jj
    have hso:=Ta bg.nodup q3;rw[q2]at hr;refine⟨n0,true,by simpa using hr,by rw[hso];rfl,by rw[hso];rfl⟩
  obtain⟨n,ok,hr,rfl,rfl⟩:=w5;refine ER hm (u := .tuple #[.int .i64 ((G1 c9.es b).getD 0),.bool (G1 c9.es b).isSome]) ?_ ?_
  ·simp only[execOp,o6,hv,Na,Sem.run_bind,hr]
   rfl
  ·refine .j4 _ [.int .i64 ((G1 c9.es b).getD 0),.bool (G1 c9.es b).isSome] rfl λj c v hc hv=>?_
   match j with
   |0=>
    obtain rfl:=ga hc;obtain rfl:=ga hv;exact .one (.rd (.int _ _))
   |1=>
    obtain rfl:=ga hc;obtain rfl:=ga hv;exact .one (.rd (.bool _))
   |j+2=>simp at hc
 ·cases h
theorem AhX(hm:BH B S w0 m)(hs:CB B S m ρ a.eval){x' k' v':AL}(h:A6 P num o.op (.pn x' k' v')=true){s t:Nat}(hx:ρ x' = .mp s t){b:ByteArray}(jm:ρ k' = .x7 (.string b)){n:Int}(pc:ρ v' = .int .i64 n){c9:C2}(l9:m.own.get s t=some c9)(hb:b.size<=maxLen)(hl:c9.es.length<maxLen)(hn:(Lit.int .i64 n).wf=true) :
  CF B S w0 P o a m (.bz .any (m.own.put s ((m.own s).q9 t (some ⟨c9.a7,SY c9.es b n⟩)))):=by
 simp only[A6]at h;split at h
 ·rename_i ty x k v o6
  simp only[ya]at h;obtain⟨⟨⟨h1,h2⟩,h3⟩,h4⟩:=h;obtain⟨kt,et,hT,hK,hE,hZ⟩:=Sv h1;obtain⟨g,hv,yc,w7,_⟩:=wE (hx▸hs x x' h2);have Na:=wF (jm▸hs k k' h3);have hnv:=I4 (pc▸hs v v' h4);obtain⟨g',es,clock,e1,hB,hh,bg⟩:=(hm.c9 s t c9 l9).2 w7;obtain rfl:g'=g:=ga (e1.symm.trans (yc c9 l9));have hF:=bg.fit hK (Nat.le_of_lt hl);obtain⟨es',ak,hr,F',Ce,_,_,gp⟩:=Maps.fit_store (R':=JN) (Maps.string_keyed hK) hT hh hF (Nat.lt_of_le_of_lt bg.2.1 hl) (λ_ _ _ _ hz=>hz) (WideMaps.keyOf_string_mk hK hb) (val := .int .i64 n) (yv:=(.lit (.int .i64 n),[])) (by simp[JN,hn]);have hM:=bg.put hK hl hb hn F' Ce gp;have hsz:(ChangeMaps.setBlock m.w g' (.map es' ak)).heap.size=m.w.heap.size:=by simp[ChangeMaps.setBlock]
  have ho:∀k,k≠g'->(ChangeMaps.setBlock m.w g' (.map es' ak)).heap[k]?=m.w.heap[k]? := λk hk=>ChangeMaps.heap_setBlock_other hh _ hk
  obtain⟨k1,k2⟩:=An6 hm s t w7 c9 ⟨c9.a7,SY c9.es b n⟩ l9 g' e1 es es' clock ak hh rfl hM (ChangeMaps.setBlock m.w g' (.map es' ak)) (hm.below.trans ⟨⟨rfl,rfl,rfl,by rw[hsz];exact Ma _,λk hk=>ho k O'⟩,λ_=>Ma _⟩) hsz ho (ChangeMaps.heap_setBlock_same hh _);intro K Q hQ;refine Xl (w':=ChangeMaps.setBlock m.w g' (.map es' ak)) ?_ (hQ _ ⟨m.ν,_,ChangeMaps.setBlock m.w g' (.map es' ak)⟩ rfl k1 k2 (.any _));simp only[execOp,o6,hv,Na,hnv,Sem.run_bind,hr];rfl
 ·cases h
end
end Go.Eng

namespace Go.Eng
open Go.RowKit Go.Sort
section
variable {B:Nat} {S:Nat->Prop} {w0:F2} {m:M}
variable {P:Program} {num:Nat->Nat} {o:Oper} {a:Act} {ρ:AL->AV}
theorem Ale{m:M}(hm:BH B S w0 m)(s t:Nat):BH B S w0 ⟨m.ν,m.own.put s ((m.own s).q9 t none),m.w⟩/\CU B S m ⟨m.ν,m.own.put s ((m.own s).q9 t none),m.w⟩:=by
 have old:∀s' t' b,(m.own.put s ((m.own s).q9 t none)).get s' t'=some b->m.own.get s' t'=some b:=λs' t' b h=>by
  rw[LU]at h;split at h
  ·cases h
  ·exact h
 have he:CU B S m ⟨m.ν,m.own.put s ((m.own s).q9 t none),m.w⟩:=by
  refine OL hm (Ma _) (λ_ _ _=>rfl) (λs'=>by rw[XZ];exact Ma _) (λs' t' b' _ j8=>⟨b',old s' t' b' j8,rfl,rfl,λ_ ar _ _ ha=>⟨ar,ha,rfl⟩⟩) (λs' t' g hl hg _=>?_);obtain⟨b,hb⟩:=hl;exact⟨s',t',⟨b,old s' t' b hb⟩,hg⟩
 refine⟨⟨hm.below,hm.size,λs' t' ht=>?_,λs' t' b hb=>?_,λs1 t1 s2 t2 b1 b2 g h1 h2=>hm.inj s1 t1 s2 t2 b1 b2 g (old _ _ _ h1) (old _ _ _ h2)⟩,he⟩
 ·rw[XZ]at ht
  rw[LU];split
  ·rfl
  ·exact hm.fresh s' t' ht
 ·exact(hm.c9 s' t' b (old s' t' b hb)).ext he rfl λg x _ hx=>hx
theorem Agy{m:M}{c:AV}{u:Value}(h:CC B S m c u)(hn:Q9 c=true){w:World}{R:Bool->Nat->Prop}:Rd w R c u:=by
 cases c<;>simp[Q9]at hn
 ·cases h with
  |rd h=>cases h;exact .int _ _
 ·cases h with
  |rd h=>cases h;exact .bool _
theorem Alw(ow:Own)(s t:Nat)(b:C2):((ow.put s (((ow s).q9 t none).new b)).put s (((ow.put s (((ow s).q9 t none).new b)) s).q9 (ow.j6 s) none))=ow.put s (((ow s).q9 t none).lost):=by
 rw[Own.k9,Own.jo];congr 1;unfold BZ.new BZ.lost BZ.q9 Own.j6;congr 1;funext t'
 by_cases h:t'=(ow s).j6<;>simp[h]
theorem Ahr(hm:BH B S w0 m)(hs:CB B S m ρ a.eval){a7 bytes:Nat}{x' y':AL}(h:A6 P num o.op (.nf a7 bytes x' y')=true){ys:v_}(hy:EX m.own (ρ y')=some ys)(hz:∀e∈ys,e.length=a7/\∀c∈e,Q9 c=true){s t:Nat}{b:C2}(hx:ρ x' = .row s t a7 0 0)(l9:m.own.get s t=some b)
  (mw:b.a7=a7) (jy:ys.length*bytes<=ET) (El:ys.length<=9223372036854775807) :
  CF B S w0 P o a m (.bz (.sl false ys) (m.own.put s (((m.own s).q9 t none).lost))):=by
 have h':A6 P num o.op (.app 0 a7 bytes x' y')=true:=h;have hd:=mE hm hs h' hy (λe he=>(hz e he).1) hx l9 mw (Hf _) (by simpa using jy) (by simpa using El);intro K Q hK;refine hd K Q λu m' hown kg fm hcv=>?_
 change m'.own=m.own.put s (((m.own s).q9 t none).new ⟨a7,b.es.take 0++ys⟩)at hown;change CV B S m' (.row s (m.own.j6 s) a7 0 (0+ys.length)) u at hcv;obtain⟨k1,k2⟩:=Ale kg s (m.own.j6 s);have da:m'.own.get s (m.own.j6 s)=some ⟨a7,ys⟩:=by
  rw[hown,SH,if_pos ⟨rfl,rfl⟩];simp
 refine hK u ⟨m'.ν,m'.own.put s ((m'.own s).q9 (m.own.j6 s) none),m'.w⟩ ?_ k1 (fm.trans k2) ?_
 ·show m'.own.put s ((m'.own s).q9 (m.own.j6 s) none)=_
  rw[hown];exact Alw _ _ _ _
 ·obtain⟨ad,cap,hu,ht,hz0,jn,ha,hb⟩:=QR hcv
  obtain⟨_,dp⟩:=hb _ da;obtain⟨gf,cg⟩:=kg.mc da (VT hcv);subst hu;rw[qb]at jn dp⊢;show CV B S _ (.sl false ys) _;refine .ca (.one (.rd ?_));by_cases pe:ys=[]
  ·subst pe
   exact .jb _ _ _
  ·rcases dp with⟨hl0,_⟩|⟨g,arr,e,hg,js,hh,hle⟩
   ·exact absurd (ea hl0) pe
   ·rw[hg]at cg
    obtain⟨hB,mb,e2,qz,bu⟩:=cg;rw[hh]at qz;obtain⟨rfl,rfl⟩:arr=mb/\e=e2:=by simpa using qz
    rw[js];refine Rd.sl false ys g (0*a7) a7 cap (λi j=>(arr[i*a7+j]?).getD undef) pe hz0 (.inr (.inl ⟨hB,λs' t' hl yc=>?_⟩)) jn (λe he=>(hz e he).1) (λi e hi j c hj=>?_) (λi e hi j c hj=>?_)
    ·obtain⟨b',j8⟩:=Da.1 hl
     change Own.get (m'.own.put s ((m'.own s).q9 (m.own.j6 s) none)) s' t'=some b' at j8;rw[LU]at j8;split at j8
     ·cases j8
     ·rename_i o7
      exact o7 (kg.inj _ _ _ _ _ _ _ j8 da yc hg)
    ·obtain⟨u,hu,_⟩:=bu i e hi j c hj
     rw[ve,qb,VK hh];have hu:arr[i*a7+j]?=some u:=hu;rw[hu];rfl
    ·obtain⟨u,hu,fh⟩:=bu i e hi j c hj
     have hu:arr[i*a7+j]?=some u:=hu;rw[hu];exact Agy fh ((hz e (zM hi)).2 c (zM hj))
theorem Agx{m:M}{c:AV}{u:Value}(h:CC B S m c u)(hn:YK c=true):Rd m.w (safe B S m) c u:=by
 cases h<;>first|assumption|simp[YK]at hn
theorem AhP(hm:BH B S w0 m)(hs:CB B S m ρ a.eval){a7:Nat}{cp:List AL}(h:A6 P num o.op (.lit a7 cp)=true){es:v_}(fi:cp.mapM (λx=>cellsOf (ρ x))=some es)(hz:∀e∈es,e.length=a7/\∀c∈e,YK c=true) :
  CF B S w0 P o a m (.val (.sl false es)):=by
 have h':A6 P num o.op (.b8 0 a7 cp)=true:=h;obtain⟨vs,e,w5,hsz,h0,hc⟩:=uY hs h' fi λe he=>(hz e he).1
 intro K Q hK;obtain⟨h1,h2⟩:=grow hm ((DL.refl w0.D m.w.heap.size m.w).alloc (Ma _) (.cells vs e));refine N7 w5 (hK _ ⟨m.ν,m.own,m.w.alloc (.cells vs e)⟩ rfl h1 h2 (.ca (.one (.rd ?_))));by_cases pe:es=[]
 ·subst pe
  exact .jb _ _ _
 ·have hh:(m.w.alloc (.cells vs e)).heap[m.w.heap.size]?=some (.cells vs e (0,0)):=heap_alloc_new _ _
  refine Rd.sl false es m.w.heap.size 0 a7 es.length (λi j=>(vs[i*a7+j]?).getD undef) pe h0 (.inr (.inl ⟨hm.size,λs' t' hl yc=>?_⟩)) (Ma _) (λe he=>(hz e he).1) (λi e hi j c hj=>?_) (λi e hi j c hj=>?_)
  ·obtain⟨b',j8⟩:=Da.1 hl
   obtain⟨_,x,h4⟩:=hm.ge ⟨b',j8⟩ yc;have:=(sa.1 h4).1
   omega
  ·obtain⟨u,hu,_⟩:=hc i e hi j c hj
   rw[qb,VK hh,hu];rfl
  ·obtain⟨u,hu,fh⟩:=hc i e hi j c hj
   rw[hu];exact Agx (h2.cc fh) ((hz e (zM hi)).2 c (zM hj))
end
section
variable {cmp:Nat->w_->Option AV} {f:Nat} {es es':v_}
theorem KN.nodup(h:KN cmp f es es'):es'.Nodup:=by
 unfold Gf;rw[Mc];intro i j hi hj jf e;obtain⟨r,h1,h2⟩:=h.ord i j _ _ (zE hi) (zE hj);obtain⟨q,h3,h4⟩:=h.ord i i _ _ (zE hi) (zE hi);rw[<-e,h3]at h1;obtain rfl:q=r:=by simpa using h1
 have:=h4.1 (h2.2 jf)
 omega
theorem Tp{α:Type}{l:List α}(h:l.Nodup){i j:Nat}(hi:i<l.length)(hj:j<l.length)(e:l[i]=l[j]):i=j:=by
 unfold Gf at h;rw[Mc]at h;rcases vf i j with h1|h1|h1
 ·exact absurd e (h i j hi hj h1)
 ·exact h1
 ·exact absurd e.symm (h j i hj hi h1)
theorem Anw(h:KN cmp f es es'):∃cf:Fin es.length->Fin es.length->Int,(∀k l:Fin es.length,cmp f [.agg es[k],.agg es[l]]=some (.int .i64 (cf k l)))/\SWO (IO cf)/\(∀x y,(IO cf) x y=false->(IO cf) y x=false->x=y) /\
  ((ib es.length).mergeSort λx y=>!(IO cf) y x).map (λk=>es[k])=es':=by
 have yi:∀k:Fin es.length,∃p:Nat,es'[p]?=some es[k]:=λk=>Oe (h.perm.mem_iff.2 (Nb k.2))
 let pos:Fin es.length->Nat:=λk=>(yi k).choose
 have hp:∀k,es'[pos k]?=some es[k]:=λk=>(yi k).choose_spec
 have hnd:es.Nodup:=h.perm.nodup_iff.1 h.nodup;have inj:∀k l,pos k=pos l->k=l:=λk l e=>by
  have h1:=hp k;rw[e,hp l]at h1;have h2:es[l]=es[k]:=by simpa using h1
  exact(Fin.ext (Tp hnd l.2 k.2 h2)).symm
 let cf:Fin es.length->Fin es.length->Int:=λk l=>(h.ord _ _ _ _ (hp k) (hp l)).choose
 have Jb:∀k l,cmp f [.agg es[k],.agg es[l]]=some (.int .i64 (cf k l))/\(cf k l<0↔pos k<pos l):=λk l=>(h.ord _ _ _ _ (hp k) (hp l)).choose_spec
 have hlt:∀k l,IO cf k l=decide (pos k<pos l):=λk l=>by
  unfold IO;exact decide_eq_decide.2 (Jb k l).2
 refine⟨cf,λk l=>(Jb k l).1,⟨λx=>by rw[hlt];simp,λx y z=>by rw[hlt,hlt,hlt];simp only[decide_eq_true_eq];omega,λx y z=>by rw[hlt,hlt,hlt];simp only[decide_eq_false_iff_not];omega⟩,λx y=>by
  rw[hlt,hlt];simp only[decide_eq_false_iff_not];intro h1 h2;exact inj x y O',?_⟩
 have Ni:=List.pairwise_mergeSort (le:=λx y=>!(IO cf) y x) (λx y z=>by simp only[hlt,Eb,decide_eq_false_iff_not];omega) (λx y=>by simp only[hlt,Gb,Eb,decide_eq_false_iff_not];omega) (ib es.length);have vk:=List.mergeSort_perm (ib es.length) (λx y=>!(IO cf) y x);generalize ((ib es.length).mergeSort λx y=>!(IO cf) y x)=ks at Ni vk;have hkn:ks.Nodup:=vk.nodup_iff.2 (List.nodup_finRange _);have ae:(ib es.length).map (λk=>es[k])=es:=by
  apply List.ext_getElem
  ·simp
  ·intro i h1 h2;simp
 refine KN.uniq (cmp:=cmp) (f:=f) (es:=es) ⟨?_,h.cln,λi j x y hx hy=>?_⟩ h
 ·exact(vk.map _).trans (by rw[ae])
 ·rw[Oa]at hx hy
  cases rz:ks[i]? with
  |none=>simp[rz]at hx
  |some k=>
   cases Mz:ks[j]? with
   |none=>simp[Mz]at hy
   |some l=>
    simp only[rz,Mz,Aa,za]at hx hy;subst hx hy;refine⟨cf k l,(Jb k l).1,?_⟩;rw[(Jb k l).2];obtain⟨hi,rfl⟩:=zS rz;obtain⟨hj,rfl⟩:=zS Mz;rw[Mc]at Ni;have le:∀i j (hi:i<ks.length) (hj:j<ks.length),i<j->pos ks[i]<pos ks[j]:=λi j hi hj jf=>by
     have h1:=Ni i j hi hj jf;simp only[hlt,Eb,decide_eq_false_iff_not]at h1;have h2:pos ks[i]≠pos ks[j]:=λe=>by
      have:=Tp hkn hi hj (inj _ _ e)
      omega
     omega
    constructor
    ·intro nz
     rcases vf i j with h1|h1|h1
     ·exact h1
     ·subst h1;omega
     ·have:=le j i hj hi h1;omega
    ·exact le i j hi hj
theorem Anx{n:Nat}(hn:es.length=n)(h:KN cmp f es es'):∃cf:Fin n->Fin n->Int,(∀(k l:Fin n) x y,es[k.1]?=some x->es[l.1]?=some y->cmp f [.agg x,.agg y]=some (.int .i64 (cf k l)))/\SWO (IO cf)/\(∀x y,(IO cf) x y=false->(IO cf) y x=false->x=y) /\
  ((ib n).mergeSort λx y=>!(IO cf) y x).map (λk=>(es[k.1]?).getD [])=es':=by
 subst hn;obtain⟨cf,h1,h2,h3,h4⟩:=Anw h;refine⟨cf,λk l x y hx hy=>?_,h2,h3,?_⟩
 ·rw[zE k.2]at hx
  rw[zE l.2]at hy;obtain rfl:=ga hx;obtain rfl:=ga hy;exact h1 k l
 ·rw[<-h4]
  apply Lb;intro k _;rw[zE k.2];rfl
end
section
variable {α:Type} [Inhabited α] {enc:α->List Value} {k:Nat} {w:World} {c9 m:Nat} {dk:Array α} {os:Array Obj}
theorem Uv:(ML enc k dk).size=dk.size*k:=by simp[ML]
theorem Qg{i j:Nat}(hi:i<dk.size)(hj:j<k):(ML enc k dk)[i*k+j]! = (enc dk[i]!)[j]! := by
 have hlt:i*k+j<dk.size*k:=by
  have:=zR k (show i+1<=dk.size from hi)
  rw[kb]at this;omega
 obtain⟨e1,e2⟩:=wT k i j hj;simp[ML,hlt,e1,e2]
theorem Anv{q:Nat}(hq:q<w.heap.size)(o7:q≠c9)(off:Nat):(NG enc k w c9 off m dk os).heap[q]?=w.heap[q]? := by
 unfold NG;rw[heap_grow_old _ _ (by simpa [putRow,mapBlock,Sort.ahead]using hq)];simp[putRow,mapBlock,Sort.ahead,Bb,Ne.symm o7]
theorem Agi{W w':World}(h:DL True W.heap.size W w'):∃q os',w'=Sort.grow (W.drewN q) os':=by
 refine⟨w'.drawn-W.drawn,w'.heap.extract W.heap.size w'.heap.size,?_⟩;have h1:w'.heap=W.heap++w'.heap.extract W.heap.size w'.heap.size:=by
  apply Array.ext_getElem?;intro i;rw[Array.getElem?_append];split
  ·rename_i hi
   exact h.block i hi
  ·rename_i hi
   rw[Array.getElem?_extract];split
   ·congr 1;omega
   ·rw[Array.getElem?_eq_none]
    have:=h.size
    omega
 have h2:w'.drawn=W.drawn+(w'.drawn-W.drawn):=by have:=h.drawn trivial;omega
 have h3:=h.os;have h4:=h.tape;have h5:=h.output;cases w';cases W;simp only[Sort.grow,World.drewN]at*;subst h3 h4 h5;congr
end
section
variable {B:Nat} {S:Nat->Prop} {w0:F2} {m:M}
variable {P:Program} {num:Nat->Nat} {o:Oper} {a:Act} {ρ:AL->AV}
theorem Agw{c:AV}{v:Value}(h:CC B S m c v)(hc:AY c):Rd m.w (safe B S m) c v:=by
 cases h with
 |rd h=>exact h
 |_=>simp[AY]at hc
theorem Zb{C:Cl}{I:EL}(hC:HE I P num C B w0)(hs:CB B S m ρ a.eval){fs f a7:Nat}{x' c':AL}(h:A6 P num o.op (.fe fs f a7 x' c')=true)(hc:ρ c' = .fn true f (C.num f) []) :
  ∃ts X v,o.op = .call ⟨.value (.func (num fs)),X,ts⟩/\X.map a.eval = #[v,.func (.func (num f)) #[] #[]]/\CV B S m (ρ x') v:=by
 obtain⟨xs,ts,o6,he⟩:=gO (P:=P) (num:=num) (f:=fs) (xs':=[x',c']) h;obtain⟨hl,hx⟩:=R3 hs he;obtain⟨xl⟩:=xs;match xl,hl,hx with
 |[X,Y],_,hx=>
  refine⟨ts,_,a.eval X,o6,?_,hx 0 X x' rfl rfl⟩;have h1:=hx 1 Y c' rfl rfl;rw[hc]at h1;have:a.eval Y = .func (.func (num f)) #[] #[]:=by
   rw[hC.c.num]at h1;generalize a.eval Y=fv at h1;cases h1 with
   |ca h1=>cases h1 with
    |one h1=>cases h1 with
     |rd h1=>cases h1
    |fn p f g cs vs hp h1=>
     have:vs=[]:=ea h1.1.symm
     subst this;rfl
    |tf f g cs vs hp h1=>exact absurd rfl hp
  simp[this]
theorem xD{C:Cl}{I:EL}(hC:HE I P num C B w0)(hm:BH B S w0 m)(hs:CB B S m ρ a.eval){fs f a7:Nat}{x' c':AL}(h:A6 P num o.op (.fe fs f a7 x' c')=true)(hc:ρ c' = .fn true f (C.num f) [])(hk:C.ff fs=some a7)
  (hx:∀v,CV B S m (ρ x') v->∃p cap,v = .slice p 0 cap):CF B S w0 P o a m (.bz (.j4 []) m.own):=by
 obtain⟨ts,X,v,o6,hX,hv⟩:=Zb hC hs h hc;obtain⟨p,cap,rfl⟩:=hx v hv;obtain⟨s1,s2,_⟩:=hC.c.fe fs a7 hk;intro K Q hK;unfold Oper.wp;rw[Y2 o6 (s1 _ _),hX];refine Calls.mono (s2 p cap _ m.w) λe w' ⟨he,hw⟩=>?_
 subst he hw;exact hK _ m rfl hm (CU.refl m) (.j4 [] [] rfl (λj c v h=>by simp at h))
theorem Ah3{C:Cl}{I:EL}(hC:HE I P num C B w0)(hm:BH B S w0 m)(hs:CB B S m ρ a.eval){fs f a7:Nat}{x' c':AL}(h:A6 P num o.op (.fe fs f a7 x' c')=true)(hc:ρ c' = .fn true f (C.num f) [])(hk:C.ff fs=some a7)
  {s t len:Nat} {b:C2} {es':v_} (hx:ρ x' = .row s t a7 0 len) (l9:m.own.get s t=some b) (hlen:len=b.es.length) (mw:b.a7=a7) (Mf:len<4611686018427387904) (yo:KN C.cmp f b.es es') :
  CF B S w0 P o a m (.bz (.j4 []) (m.own.put s ((m.own s).q9 t (some ⟨a7,es'⟩)))):=by
 subst mw;cases hN:b.es.length with
 |zero=>
  have ABu:b.es=[]:=ea hN;have Gn:es'=[]:=ea (yo.perm.length_eq.trans hN);have:=xD hC hm hs h hc hk (λv hv=>by
   rw[hx]at hv;obtain⟨ad,cap,rfl,_⟩:=QR hv;exact⟨ad,cap,by rw[hlen,hN]⟩)
  rw[An7 _ _ _ _ (by rw[l9,Gn];cases b;simp_all)];exact this
 |succ N=>
  obtain⟨ts,X,v,o6,hX,hv⟩:=Zb hC hs h hc;rw[hx]at hv;obtain⟨ad,cap,rfl,ht,hz0,jn,ha,hb⟩:=QR hv;have w7:=VT hv;obtain⟨_,dp⟩:=hb b l9;obtain⟨gf,cg⟩:=hm.mc l9 w7;rcases dp with⟨hl0,_⟩|⟨g,arr,e,hg,js,hh,hle⟩
  ·omega
  rw[hg]at cg;obtain⟨hB,mb,e2,qz,bu⟩:=cg;rw[hh]at qz;obtain⟨rfl,rfl⟩:arr=mb/\e=e2:=by simpa using qz
  have yd:g<m.w.heap.size:=(sa.1 hh).1;obtain⟨cf,c1,c2,c3,c4⟩:=Anx hN yo;obtain⟨s1,_,s3⟩:=hC.c.fe fs b.a7 hk;let enc:Fin (N+1)->List Value:=λk=>(Hd b.a7).map λj=>(arr[k.1*b.a7+j]?).getD undef
  have ef:∀x,(enc x).length=b.a7:=λx=>by simp[enc]
  have nr:∀k:Fin (N+1),∃x,b.es[k.1]?=some x:=λk=>⟨_,zE (by rw[hN];exact k.2)⟩
  have hcell:∀(k:Fin (N+1))(x:w_),b.es[k.1]?=some x->∀(j:Nat)(c:AV),x[j]?=some c->∃u,arr[k.1*b.a7+j]?=some u/\(enc k)[j]?=some u/\CC B S m c u:=λk x hx j c hj=>by
   obtain⟨u,h1,h2⟩:=bu k.1 x hx j c hj;have eh:j<b.a7:=by rw[<-gf x (zM hx)];exact(zS hj).1
   refine⟨u,h1,?_,h2⟩;simp[enc,Bc eh,h1]
  have Hn:∀(k:Fin (N+1))(j:Nat),j<b.a7->∃c u,((b.es[k.1]?).getD [])[j]?=some c/\arr[k.1*b.a7+j]?=some u/\(enc k)[j]?=some u/\CC B S m c u:=λk j hj=>by
   obtain⟨x,hx⟩:=nr k;have hjx:j<x.length:=by rw[gf x (zM hx)];exact hj
   obtain⟨u,h1,h2,h3⟩:=hcell k x hx j _ (zE hjx);exact⟨x[j],u,by rw[hx];exact zE hjx,h1,h2,h3⟩
  have h1c:∀x,∀v∈enc x,v.oneCell'=true:=λx v hv=>by
   obtain⟨j,hj⟩:=Oe hv;obtain⟨c,u,_,_,h3,h4⟩:=Hn x j (by rw[<-ef x];exact(zS hj).1);rw[hj]at h3;obtain rfl:=ga h3;exact h4.one
  let d:Array (Fin (N+1)):=(ib (N+1)).toArray
  have hd:d.size=N+1:=by simp[d]
  have Bp:∀i,i<N+1->(d[i]!).1=i:=λi hi=>by
   rw[getElem!_pos d i (by rw[hd];exact hi)];simp[d]
  have bq:(N+1)*b.a7<=arr.size:=by
   have:(N+1)*b.a7<=(0+cap)*b.a7:=zR _ O'
   omega
  have hH:Holds id m.w g (0*b.a7) (ML enc b.a7 d):=λj hj=>by
   rw[Uv,hd]at hj;have hdm:=Md j b.a7;have hq:j/b.a7<N+1:=Fc (by rw[Pc];exact hj);have hr:j%b.a7<b.a7:=Fe _ hz0;have e1:j=j/b.a7*b.a7+j%b.a7:=by rw[Pc];exact hdm.symm
   obtain⟨c,u,_,h2,h3,_⟩:=Hn ⟨j/b.a7,hq⟩ _ hr;refine⟨?_,by simp[World.frozen?,hh]⟩;rw[ve,qb,VK hh];conv=>rhs;rw[e1]
   rw[Qg (by rw[hd];exact hq) hr];have e2:d[j/b.a7]! = ⟨j/b.a7,hq⟩:=Fin.ext (Bp _ hq);rw[e2];have e3:(enc ⟨j/b.a7,hq⟩)[j%b.a7]! = u:=by
    rw[dd,h3];rfl
   show arr[j]?=some ((enc ⟨j/b.a7,hq⟩)[j%b.a7]!);rw[e3,<-h2];show arr[j]?=arr[j/b.a7*b.a7+j%b.a7]?;rw[<-e1]
  have o7:∀l q,safe B S m l q->q≠g:=λl q hq e=>by
   subst e;rcases hq with⟨_,h⟩|⟨_,h⟩|⟨_,h⟩
   ·omega
   ·exact h s t (by rw[l9];rfl) hg
   ·omega
  have dj:=s3 N enc ef h1c cf c2 (num f) g (0*b.a7) cap d m.w (λus w=>by
   obtain⟨x0,nc⟩:=nr ⟨0,O'⟩;exact(hC.c.cmp f _ _ (c1 _ _ _ _ nc nc)).1 us w) (λq os dk hdk x y=>by
   obtain⟨xv,Cq⟩:=nr x;obtain⟨yv,sz⟩:=nr y;have args:∀(k:Fin (N+1))(xv:w_),b.es[k.1]?=some xv->CA (NG enc b.a7 m.w g (0*b.a7) q dk os).heap.size (λi=>i<m.w.heap.size) ⟨λ_ _=>none,Own.emp,NG enc b.a7 m.w g (0*b.a7) q dk os⟩ (.agg xv) (.agg (enc k).toArray):=λk xv Cq=>by
    refine .agg xv (enc k) ⟨by rw[ef,gf xv (zM Cq)],λj c v hc hv=>.rd ?_⟩;obtain⟨u,h1,h2,h3⟩:=hcell k xv Cq j c hc;rw[hv]at h2;obtain rfl:=ga h2;have hsz:m.w.heap.size<=(NG enc b.a7 m.w g (0*b.a7) q dk os).heap.size:=by simp[NG,putRow,mapBlock,Sort.ahead]
    exact(Agw h3 (MF (Z6 yo.cln k.1 xv Cq) j c hc)).mono (λl i hi _=>.inl ⟨hi,O'⟩) (λl i hi vn=>Anv hi (o7 l i vn) _)
   refine Calls.mono ((hC.c.cmp f _ _ (c1 x y xv yv Cq sz)).2 (λi=>i<m.w.heap.size) _ [.agg (enc x).toArray,.agg (enc y).toArray] rfl (λj c v hc hv=>?_)) λe w' ⟨u,he,fk,hcv⟩=>?_
   ·match j,hc,hv with
    |0,hc,hv=>
     obtain rfl:=ga hc;obtain rfl:=ga hv;exact args x xv Cq
    |1,hc,hv=>
     obtain rfl:=ga hc;obtain rfl:=ga hv;exact args y yv sz
    |j+2,hc,hv=>simp at hc
   ·subst he
    exact⟨by rw[I4 hcv],Agi fk⟩) hH yd O' c3
  intro K Q hK;unfold Oper.wp;rw[Y2 o6 (s1 _ _),hX,hlen,hN,<-hd,js];refine Calls.mono dj λe' w' ⟨im,q,os,hw⟩=>?_
  subst im hw;have hdl:d.toList=ib (N+1):=by simp[d]
  rw[hdl];generalize ye:((ib (N+1)).mergeSort λx y=>!(IO cf) y x)=ks at c4;have hkl:ks.length=N+1:=by rw[<-ye,List.length_mergeSort];simp
  have Bj:(putRow id (Sort.ahead m.w q) g (0*b.a7) (ML enc b.a7 ks.toArray)).heap[g]?=some (.cells (putCells id (0*b.a7) (ML enc b.a7 ks.toArray) arr) e (0,0)):=by
   show(m.w.heap.modify g (onCells _))[g]?=_;rw[Bb,if_pos rfl,hh];rfl
  obtain⟨k1,k2⟩:=Yj hm s t w7 b ⟨b.a7,es'⟩ l9 g hg arr (putCells id (0*b.a7) (ML enc b.a7 ks.toArray) arr) e hh rfl (λx hx=>gf x (yo.perm.mem_iff.1 hx)) (by simp[putCells]) (λi cs hi j c hj=>by
    rw[<-c4,Oa]at hi;cases rz:ks[i]? with
    |none=>simp[rz]at hi
    |some k=>
     simp only[rz,Aa,za]at hi;have hil:i<ks.length:=(zS rz).1;obtain⟨x,hx⟩:=nr k;rw[hx]at hi;obtain rfl:x=cs:=hi;have eh:j<b.a7:=by rw[<-gf x (zM hx)];exact(zS hj).1
     obtain⟨u,h1,h2,h3⟩:=hcell k x hx j c hj;refine⟨u,?_,h3⟩;have hlt:i*b.a7+j<(N+1)*b.a7:=by
      have:=zR b.a7 (show i+1<=N+1 by omega)
      rw[kb]at this;omega
     show(putCells id (0*b.a7) (ML enc b.a7 ks.toArray) arr)[i*b.a7+j]?=some u;unfold putCells;rw[Array.getElem?_mapIdx,Ed O',Aa,if_pos ⟨O',by rw[Uv];simp[hkl];omega⟩,ve,Nat.sub_zero,Qg (by simp[hkl];omega) eh];have e2:ks.toArray[i]! = k:=by
      rw[getElem!_pos _ i (by simpa using hil)];simpa using(zS rz).2
     rw[e2,dd,h2];rfl) (putRow id (Sort.ahead m.w q) g (0*b.a7) (ML enc b.a7 ks.toArray)) (hm.below.trans ⟨⟨rfl,rfl,rfl,by simp[putRow,mapBlock,Sort.ahead],λi hi=>by
    simp only[putRow,mapBlock,Sort.ahead,Bb];rw[if_neg O']⟩,λ_=>by simp[putRow,mapBlock,Sort.ahead]⟩) (by simp[putRow,mapBlock,Sort.ahead]) (λi hi=>by
    simp only[putRow,mapBlock,Sort.ahead,Bb];rw[if_neg (Ne.symm hi)]) Bj
  obtain⟨k3,k4⟩:=grow k1 (w':=NG enc b.a7 m.w g (0*b.a7) q ks.toArray os) ⟨⟨rfl,rfl,rfl,by simp[NG],λi hi=>heap_grow_old _ _ hi⟩,λ_=>Ma _⟩;exact hK _ ⟨m.ν,_,NG enc b.a7 m.w g (0*b.a7) q ks.toArray os⟩ rfl k3 (k2.trans k4) (.j4 [] [] rfl (λj c v h=>by simp at h))
end
end Go.Eng

namespace Go.Eng
open Go.RowKit
section
variable {B:Nat} {S:Nat->Prop} {w0:F2} {m:M}
variable {P:Program} {num:Nat->Nat} {o:Oper} {a:Act} {ρ:AL->AV} {C:Cl} {b9:u_}
theorem AhV(hm:BH B S w0 m)(hs:CB B S m ρ a.eval){mx:Bool}{xs':List AL}(h:A6 P num o.op (.mm mx xs')=true){v r:AV}{l:w_}(hx:xs'.map ρ=v::l)(hv:MS mx v l=some r):CF B S w0 P o a m (.val r):=by
 by_cases hi:∃k n,v = .int k n
 ·exact AhU hm hs h hx hv hi
 ·cases l with
  |cons u q=>
   simp only[MS]at hv;exfalso;cases v<;>first|(exact hi ⟨_,_,rfl⟩)|(simp[Q7]at hv)
  |nil=>
   simp only[MS,za]at hv;subst hv;obtain⟨xs,ts,o6,he⟩:=Tw h;cases xs' with
   |nil=>simp at hx
   |cons y yr=>
    simp only[rb,qf,List.map_eq_nil_iff]at hx;obtain⟨rfl,rfl⟩:=hx;obtain⟨xl⟩:=xs;cases xl with
    |nil=>simp[EH]at he
    |cons x xr=>
     simp only[EH,ya]at he;cases xr with
     |cons=>simp[EH]at he
     |nil=>
      refine ER hm (u:=a.eval x) ?_ (hs x y he.1);cases mx<;>simp[execOp,o6,resolve,invoke,builtin,Builtin.min_,Builtin.max_]
theorem nU(o:Own)(l:u_)(s t:Nat)(b:C2)(h:(o.s9 l).get s t=some b):o.get s t=some b:=by
 induction l with
 |nil=>exact h
 |cons x r ih=>
  unfold Own.get Own.s9 at h;by_cases hs:s=x
  ·simp[hs]at h
  ·simp only[if_neg hs]at h
   exact ih h
theorem All{o:Own}{l:u_}{s t i j n:Nat}{cs:w_}(h:(o.s9 l).qk s t i j n=some cs):o.qk s t i j n=some cs:=by
 unfold Own.qk at*;cases hg:(o.s9 l).get s t with
 |none=>simp[hg]at h
 |some b=>
  rw[nU o l s t b hg];simpa [hg]using h
theorem Ain{o:Own}{l:u_}{v:AV}{es:v_}(h:EX (o.s9 l) v=some es):EX o v=some es:=by
 cases v with
 |x7 v=>cases v<;>exact h
 |row s t z off len=>
  simp only[EX]at h⊢;cases hg:(o.s9 l).get s t with
  |none=>simp[hg]at h
  |some b=>
   rw[nU o l s t b hg];simpa [hg]using h
 |_=>exact h
theorem YM{α β:Type}{f g:α->Option β}(hfg:∀x y,f x=some y->g x=some y):∀{l:List α}{l':List β},l.mapM f=some l'->l.mapM g=some l'
 |[],l',h=>by simpa using h
 |x::r,l',h=>by
  simp only[fb,db,xc]at h⊢;cases hx:f x with
  |none=>simp[hx]at h
  |some y=>
   cases hr:r.mapM f with
   |none=>simp[hx,hr]at h
   |some r'=>
    simp[hx,hr]at h;simp[hfg x y hx,YM hfg hr,h]
theorem rX(o:Own)(l:u_)(b:Bool):∀(d:Nat)(c c':AV),snap (o.s9 l) b d c=some c'->snap o b d c=some c'
 |0,c,c',h=>by cases c<;>simp_all[snap]
 |d+1,c,c',h=>by
  cases c<;>first|(simp_all[snap];done)|skip
  rename_i s t z off len;simp only[snap]at h⊢;cases he:EX (o.s9 l) (.row s t z off len)with
  |none=>simp[he]at h
  |some es=>
   simp only[he]at h;rw[Ain he];simp only[ka]at h⊢;obtain⟨es',h1,h2⟩:=h;exact⟨es',YM (λx y hx=>YM (rX o l b d) hx) h1,h2⟩
theorem Yt(o:Own)(l:u_)(b:Bool)(c c':AV)(h:CX (o.s9 l) b c=some c'):CX o b c=some c':=by
 cases c<;>first|exact rX o l b 6 _ _ h|skip
 simp only[CX,ka]at h⊢;obtain⟨cs,h1,h2⟩:=h;exact⟨cs,YM (rX o l b 6) h1,h2⟩
theorem Anm(o:Own)(l:u_)(b:Bool)(c c':AV)(h:QB (o.s9 l) b c=some c'):QB o b c=some c':=by
 rcases Classical.em (c = .nil)with rfl|hc
 ·exact h
 ·have e:∀o:Own,QB o b c=CX o b c:=λo=>by cases c<;>first|rfl|exact(hc rfl).elim
  rw[e]at h⊢;exact Yt o l b _ _ h
theorem AlD{o:Own}{l:u_}{b:Bool}{xs vs:w_}(h:xs.mapM (QB (o.s9 l) b)=some vs):xs.mapM (QB o b)=some vs:=YM (Anm o l b) h
theorem AlB{o:Own}{l:u_}{b:Bool}{xs vs:w_}(h:xs.mapM (CX (o.s9 l) b)=some vs):xs.mapM (CX o b)=some vs:=YM (Yt o l b) h
theorem AnH{own o8:Own}{s t i j:Nat}{vs:w_}(h:own.om s t i j vs=some o8):own.put s (o8 s)=o8:=by
 unfold Own.om at h;cases hg:own.get s t with
 |none=>simp[hg]at h
 |some b=>
  simp only[hg]at h;cases he:b.es[i]? with
  |none=>simp[he]at h
  |some cs=>
   simp only[he]at h;split at h
   ·obtain rfl:=ga h
    rw[Own.k9]
   ·cases h
theorem Aod{n:Int}(h0:-9223372036854775808<=n)(h1:n<=9223372036854775807):(Lit.int .i64 n).wf=true:=by
 simp[Lit.wf,IntKind.min,IntKind.max,IntKind.signed,IntKind.bits];omega
theorem WW{op:DU}{s:Nat}(h:Y4 op=true)(hs:EJ op=some s):s<D9:=by
 simp only[Y4,hs,ya]at h;have:=h.1
 simpa [Ff]using this
theorem Ang{s a7 bytes:Nat}{x y:AL}(h:Y4 (.app s a7 bytes x y)=true):s<D9:=by
 simp only[Y4,ya]at h;have:=h.2
 simpa [Ff]using this
theorem Aim{I:EL}(hC:HE I P num C B w0)(hm:BH B S w0 m)(hs:CB B S m ρ a.eval){Al:DU}(k6:A6 P num o.op Al=true)(kp:Y4 Al=true){E:B3}(h:e9 C b9 ρ m.own Al=some E):CF B S w0 P o a m E:=by
 cases Al with
 |o9 x=>simp only[e9,za]at h;subst h;exact AhW hm hs k6
 |z8 s z=>simp only[e9,za]at h;subst h;exact Ah5 hm (WW kp rfl) k6
 |pick c x y=>
  simp only[e9]at h;split at h
  ·rename_i hc;simp only[za]at h;subst h;exact wZ hm hs k6 hc
  ·rename_i hc;simp only[za]at h;subst h;exact wZ hm hs k6 hc
  ·cases h
 |bin f x y=>
  simp only[e9]at h;split at h
  ·rename_i k n k' n' hx hy
   simp only[ka]at h;obtain⟨v,hv,rfl⟩:=h;exact Aht hm hs k6 hx hy hv
  ·cases h
 |beq ne x y=>
  simp only[e9]at h;split at h
  ·rename_i b b' hx hy
   simp only[za]at h;subst h;exact Ahs hm hs k6 hx hy
  ·cases h
 |un f x=>
  simp only[e9,ka]at h;obtain⟨v,hv,rfl⟩:=h;exact Ah4 hm hs k6 hv
 |conv k x=>
  simp only[e9]at h;split at h
  ·rename_i k' n hx
   simp only[za]at h;subst h;exact AhD hm hs k6 hx
  ·cases h
 |box s x=>
  simp only[e9]at h;split at h
  ·rename_i cs kj
   simp only[za]at h;subst h;exact Ahu hm hs (WW kp rfl) k6 kj
  ·cases h
 |alloc s z=>simp only[e9,za]at h;subst h;exact Ahq hm (WW kp rfl) k6
 |build z ps=>
  simp only[e9,ka]at h;obtain⟨cs,kj,rfl⟩:=h;exact Ahw hm hs k6 kj
 |b8 s a7 ps=>
  simp only[e9]at h;split at h
  ·rename_i es fi
   split at h
   ·rename_i hz
    simp only[za]at h;subst h;exact Ahv hm hs (WW kp rfl) k6 fi hz
   ·cases h
  ·cases h
 |lit a7 ps=>
  simp only[e9]at h;split at h
  ·rename_i es fi
   split at h
   ·rename_i hz
    simp only[za]at h;subst h;exact AhP hm hs k6 fi hz
   ·cases h
  ·cases h
 |l8 x off=>
  simp only[e9]at h;split at h
  ·rename_i s t i j hx
   simp only[za]at h;subst h;exact AhG hm hs k6 hx
  ·rename_i cs hx
   simp only[za]at h;subst h;exact AhF hm hs k6 hx
  ·cases h
 |nj x off n agg=>
  simp only[e9]at h;split at h
  ·rename_i cs hx
   split at h
   ·rename_i ds hp
    simp only[ka]at h;obtain⟨v,hv,rfl⟩:=h;exact AhH hm hs k6 hx hp hv
   ·cases h
  ·cases h
 |q8 arr a7 x i=>
  simp only[e9]at h;split at h
  ·rename_i k n hi
   split at h
   ·rename_i len s t i' j hx
    split at h
    ·rename_i hn
     simp only[za]at h;subst h;exact AhI hm hs k6 hi hx hn.1 hn.2
    ·cases h
   ·rename_i len cs hx
    split at h
    ·rename_i hn
     simp only[za]at h;subst h;exact AhJ hm hs k6 hi hx hn.1 hn.2
    ·cases h
   ·rename_i s t z off len hx
    split at h
    ·rename_i hn
     simp only[za]at h;subst h;exact AhK hm hs k6 hi hx hn.1 hn.2.1 hn.2.2
    ·cases h
   ·rename_i l es hx
    split at h
    ·rename_i h0
     split at h
     ·rename_i cs kj
      split at h
      ·rename_i hz
       simp only[za]at h;subst h;exact AhL hm hs k6 hi hx h0 kj hz
      ·cases h
     ·cases h
    ·cases h
   ·cases h
  ·cases h
 |ld agg n x=>
  simp only[e9]at h;split at h
  ·rename_i s t i j hx
   split at h
   ·rename_i cs kj
    simp only[ka]at h;obtain⟨v,hv,rfl⟩:=h;exact AhN hm hs k6 hx (All kj) hv
   ·cases h
  ·rename_i cs hx
   split at h
   ·rename_i ds hp
    simp only[ka]at h;obtain⟨v,hv,rfl⟩:=h;exact AhM hm hs k6 hx hp hv
   ·cases h
  ·cases h
 |st n x v=>
  simp only[e9]at h;split at h
  ·rename_i s t i j vs hx gx
   split at h
   ·rename_i hn
    simp only[ka]at h;obtain⟨o8,ho,rfl⟩:=h;exact xF hm hs k6 hx gx hn ho
   ·cases h
  ·cases h
 |mk s a7 bytes zero l c=>
  simp only[e9]at h;split at h
  ·rename_i kl a' kc b' hl hc
   split at h
   ·rename_i hn
    simp only[za]at h;subst h;exact AhQ hm hs (WW kp rfl) k6 hl hc hn.1 hn.2.1 hn.2.2.1 hn.2.2.2.1 hn.2.2.2.2
   ·cases h
  ·cases h
 |ik a7 x lo hi=>
  simp only[e9]at h;have Zy:∀(d:Nat)(y:Option AL)(q:Nat),(match y with|none=>some d|some o=>match ρ o with |.int _ n=>if 0<=n/\n<=d then some n.toNat else none|_=>none)=some q->∃n:Int,I1 ρ d y=some n/\0<=n/\n<=d/\q=n.toNat:=λd y q hq=>by
   cases y with
   |none=>simp only[za]at hq;subst hq;exact⟨d,rfl,O',O',Z'⟩
   |some y=>
    simp only at hq;cases hy:ρ y with
    |int k n=>
     simp only[hy]at hq;split at hq
     ·rename_i hn
      simp only[za]at hq;subst hq;exact⟨n,by simp[I1,hy],hn.1,hn.2,rfl⟩
     ·cases hq
    |_=>simp[hy]at hq
  have Ei:∀(y:Option AL)(q:Nat),(match y with|none=>some 0|some o=>match ρ o with |.int _ n=>if 0<=n then some n.toNat else none|_=>none)=some q->∃n:Int,I1 ρ 0 y=some n/\0<=n/\q=n.toNat:=λy q hq=>by
   cases y with
   |none=>simp only[za]at hq;subst hq;exact⟨0,rfl,O',Z'⟩
   |some y=>
    simp only at hq;cases hy:ρ y with
    |int k n=>
     simp only[hy]at hq;split at hq
     ·rename_i hn
      simp only[za]at hq;subst hq;exact⟨n,by simp[I1,hy],hn,rfl⟩
     ·cases hq
    |_=>simp[hy]at hq
  have Ej:∀(y:Option AL)(q:Nat),(match y with|none=>some 0|some o=>match ρ o with |.int _ n=>if n=0 then some 0 else none|_=>none)=some q->I1 ρ 0 y=some 0:=λy q hq=>by
   cases y with
   |none=>rfl
   |some y=>
    simp only at hq;cases hy:ρ y with
    |int k n=>
     simp only[hy]at hq;split at hq
     ·rename_i hn
      subst hn;simp[I1,hy]
     ·cases hq
    |_=>simp[hy]at hq
  split at h
  ·rename_i l es hx
   split at h
   ·rename_i q1 q2 h1 h2
    split at h
    ·rename_i hq
     simp only[za]at h;subst h;obtain⟨n1,b1,c1,rfl⟩:=Ei _ _ h1;obtain⟨n2,b2,c2,c3,rfl⟩:=Zy _ _ _ h2;exact Ah2 hm hs k6 hx b1 b2 c1 O' c3 hq.2
    ·cases h
   ·cases h
  ·rename_i hx
   split at h
   ·rename_i q1 q2 h1 h2
    simp only[za]at h;subst h;exact Ah0 hm hs k6 hx (Ej _ _ h1) (Ej _ _ h2)
   ·cases h
  ·rename_i s t z off len hx
   split at h
   ·rename_i q1 q2 h1 h2
    split at h
    ·rename_i hq
     simp only[za]at h;subst h;obtain⟨n1,b1,c1,rfl⟩:=Ei _ _ h1;obtain⟨n2,b2,c2,c3,rfl⟩:=Zy _ _ _ h2;exact Ah1 hm hs k6 hx b1 b2 c1 O' c3 hq.2
    ·cases h
   ·cases h
  ·cases h
 |ext x i=>
  simp only[e9]at h;split at h
  ·rename_i vs hx
   simp only[ka]at h;obtain⟨v,hv,rfl⟩:=h;exact AhE hm hs k6 hx hv
  ·cases h
 |len x=>
  simp only[e9]at h;split at h
  ·rename_i n hn
   simp only[za]at h;subst h;exact AhO hm hs k6 hn
  ·cases h
 |mm mx xs=>
  simp only[e9]at h;split at h
  ·cases h
  ·rename_i v r hx
   simp only[ka]at h;obtain⟨q,hq,rfl⟩:=h;exact AhV hm hs k6 hx hq
 |app s a7 bytes x y=>
  simp only[e9]at h;split at h
  ·rename_i ys pe
   split at h
   ·rename_i hz
    split at h
    ·rename_i s' t z len hx
     split at h
     ·rename_i b hb
      split at h
      ·rename_i hn
       obtain⟨n1,rfl,n3,n4,n5⟩:=hn;simp only[za]at h;subst h;exact mE hm hs k6 pe hz hx hb n1 n3 n4 n5
      ·cases h
     ·cases h
    ·rename_i hx
     split at h
     ·rename_i hn
      simp only[za]at h;subst h;exact wX hm hs (Ang kp) k6 pe hz hx hn.1 hn.2
     ·cases h
    ·cases h
   ·cases h
  ·cases h
 |call f xs=>
  simp only[e9]at h;split at h
  ·rename_i vs gx
   simp only[ka]at h;obtain⟨r,hr,rfl⟩:=h;exact Ahx hC hm hs k6 (AlB gx) hr
  ·cases h
 |j5 f xs=>
  simp only[e9]at h;split at h
  ·simp only[ka]at h
   obtain⟨r,hr,rfl⟩:=h;exact mF hC hm hs k6 ((dX hr).2 m.own λ_ _=>rfl)
  ·simp only[ka]at h
   obtain⟨r,hr,rfl⟩:=h;exact mF hC hm hs k6 hr
 |ta ne x=>
  simp only[e9]at h;split at h
  ·rename_i hx
   simp only[za]at h;subst h;exact fE hm hs k6 (b:=true) λv hv=>by rw[hx]at hv;exact⟨none,0,0,VS hv,rfl⟩
  ·rename_i b hx
   simp only[za]at h;subst h;exact fE hm hs k6 (b:=b) λv hv=>by
    rw[hx]at hv;obtain⟨ad,c,h1,h2⟩:=wC hv;exact⟨ad,0,c,h1,h2⟩
  ·rename_i hx
   simp only[za]at h;subst h;exact fE hm hs k6 (b:=false) λv hv=>by rw[hx]at hv;exact Ag8 hv
  ·rename_i hx
   simp only[za]at h;subst h;exact fE hm hs k6 (b:=false) λv hv=>by rw[hx]at hv;exact Ag7 hv
  ·cases h
 |bad=>
  have h:(none:Option B3)=some E:=h;cases h
 |pj s=>simp only[e9,za]at h;subst h;exact AhS hm k6
 |nf a7 bytes x y=>
  simp only[e9]at h;split at h
  ·rename_i ys s t z hy hx
   split at h
   ·rename_i b l9
    split at h
    ·rename_i hc
     obtain⟨c1,c2,c3,c4,c5⟩:=hc;obtain rfl:=ga h;subst c3;exact Ahr hm hs k6 hy c1 hx l9 c2 c4 c5
    ·cases h
   ·cases h
  ·cases h
 |fe fs f a7 x c=>
  simp only[e9]at h;split at h
  ·rename_i f' g hc
   split at h
   ·rename_i hg
    obtain⟨c1,c2,c3⟩:=hg;subst c1 c2;split at h
    ·rename_i hx
     obtain rfl:=ga h;exact xD hC hm hs k6 hc c3 (λv hv=>by rw[hx]at hv;exact⟨none,0,VS hv⟩)
    ·rename_i s t z len hx
     split at h
     ·rename_i b l9
      split at h
      ·rename_i hq
       obtain⟨q1,q2,q3,q4⟩:=hq;subst q2;simp only[ka]at h;obtain⟨es',he,rfl⟩:=h;exact Ah3 hC hm hs k6 hc c3 hx l9 q1 q3 q4 (Za.1 he)
      ·cases h
     ·cases h
    ·cases h
   ·cases h
  ·cases h
 |ql x k=>
  simp only[e9]at h;split at h
  ·rename_i s t b hx jm
   split at h
   ·rename_i c9 l9
    split at h
    ·rename_i hc
     simp only[za]at h;subst h;exact AhT hm hs k6 hx jm (nU _ _ _ _ _ l9) (by simp only[maxLen];omega) (by simp only[maxLen];omega)
    ·cases h
   ·cases h
  ·cases h
 |pn x k v=>
  simp only[e9]at h;split at h
  ·rename_i s t b n hx jm pc
   split at h
   ·rename_i c9 l9
    split at h
    ·rename_i hc
     obtain⟨c1,c2,c3,c4⟩:=hc;simp only[za]at h;subst h;exact AhX hm hs k6 hx jm pc l9 (by simp only[maxLen];omega) (by simp only[maxLen];omega) (Aod c3 c4)
    ·cases h
   ·cases h
  ·cases h
 |kx x=>
  simp only[e9]at h;split at h
  ·rename_i hx
   simp only[za]at h;subst h;exact AhY hm hs k6 hx
  ·cases h
 |cz s f xs=>
  simp only[e9,ka]at h;obtain⟨p,hp,rfl⟩:=h;exact mF hC hm hs (AkP k6) (dZ.1 hp m.own rfl)
 |ix tb x=>
  simp only[e9]at h;split at h
  ·rename_i k n hx
   split at h
   ·rename_i h0
    split at h
    ·rename_i v hv
     simp only[za]at h;subst h;exact AhZ hm hs k6 hx h0 hv
    ·cases h
   ·cases h
  ·cases h
 |pg p f xs=>
  simp only[e9,ka]at h;obtain⟨cs,kj,rfl⟩:=h;rw[hC.c.num];exact AhR hm hs k6 kj
 |o5 f xs=>
  simp only[e9]at h;split at h
  ·rename_i hq
   split at h
   ·rename_i r hr
    split at h
    ·rename_i iq
     simp only[za]at h;subst h;exact AhA hC hm hs k6 hq hr iq
    ·cases h
   ·cases h
  ·cases h
 |x5 s f xs=>
  simp only[e9]at h;split at h
  ·rename_i vs gx
   simp only[ka]at h;obtain⟨⟨z,es⟩,hr,rfl⟩:=h;exact AhB hC hm hs (WW kp rfl) k6 (AlD gx) hr
  ·cases h
 |di s a7 bytes x y=>
  simp only[e9]at h;split at h
  ·rename_i l ys s' t z len hy hx
   split at h
   ·rename_i b hb
    split at h
    ·rename_i hn
     obtain⟨rfl,hz,n1,rfl,n3,n4,n5⟩:=hn;simp only[za]at h;subst h;have:=mE hm hs (Tt k6) (ys:=ys) (by rw[hy];rfl) hz hx hb n1 n3 n4 n5
     intro K Q hK;exact this K Q λu m' h1 h2 h3 h4=>hK u m' h1 h2 h3 h4
    ·cases h
   ·cases h
  ·rename_i l ys hy hx
   split at h
   ·rename_i hn
    simp only[za]at h;subst h;have:=wX hm hs (WW kp rfl) (Tt k6) (ys:=ys) (by rw[hy];rfl) hn.1 hx hn.2.1 hn.2.2
    intro K Q hK;exact this K Q λu m' h1 h2 h3 h4=>hK u m' h1 h2 h3 h4
   ·cases h
  ·cases h
 |po s n x v=>
  simp only[e9]at h;split at h
  ·rename_i s' t i j vs hx gx
   split at h
   ·rename_i hn
    obtain⟨rfl,hn⟩:=hn;simp only[ka]at h;obtain⟨o8,ho,rfl⟩:=h;have:=xF hm hs (Ak2 k6) hx gx hn ho
    intro K Q hK;refine this K Q λu m' h1 h2 h3 h4=>hK u m' ?_ h2 h3 h4
    rw[h1];exact(AnH ho).symm
   ·cases h
  ·cases h
 |u6 x xs=>
  simp only[e9]at h;split at h
  ·rename_i p f g cs hx
   split at h
   ·rename_i hg
    rw[hC.c.num]at hg;subst hg;split at h
    ·split at h
     ·rename_i vs gx
      simp only[ka]at h;obtain⟨r,hr,rfl⟩:=h;exact Ahz hC hm hs k6 hx gx hr
     ·cases h
    ·simp only[ka]at h
     obtain⟨r,hr,rfl⟩:=h;exact AhC hC hm hs k6 hx hr
    ·split at h
     ·rename_i vs gx
      simp only[ka]at h;obtain⟨r,hr,rfl⟩:=h;exact Ahy hC hm hs k6 hx gx hr
     ·cases h
   ·cases h
  ·cases h
end
end Go.Eng

namespace Go.Eng
open Go.RowKit
def DY(T:Nat->AV):AL->AV
 |.t n=>T n
 |.c v=>v
def LD(T:Nat->AV)(d:Option Nat)(v:AV):Nat->AV:=λj=>if d=some j then v else T j
def NU(T:Nat->AV):Option (Nat×Bool)->Option Bool
 |none=>some true
 |some (g,want)=>match T g with
  |.bool b=>some (b == want)
  |.j4 []=>some false
  |_=>none
theorem yK(st:St):st.ev=DY (j7 st.tm):=by funext x;cases x<;>rfl
theorem Akj(st:St)(g:Option (Nat×Bool)):F7 st g=NU (j7 st.tm) g:=rfl
theorem xK(st:St)(d:Option Nat)(v:AV):j7 (st.dst d v).tm=LD (j7 st.tm) d v:=by
 cases d with
 |none=>funext j;simp[St.dst,LD]
 |some d=>
  funext j
  simp only[St.dst,LD,cN];by_cases h:j=d
  ·simp[h]
  ·simp[h,Ne.symm h]
theorem Af6(st:St)(d:Option Nat)(E:B3):j7 (st.app d E).tm=LD (j7 st.tm) d (E.valOf st.own):=by
 cases E<;>simp only[St.app,B3.valOf]<;>exact xK st d _
theorem xL(st:St)(d:Option Nat)(v:AV):(st.dst d v).own=st.own:=by cases d<;>rfl
theorem Af5(st:St)(d:Option Nat)(E:B3):(st.app d E).own=E.ah st.own:=by
 cases E with
 |val v=>simp only[St.app,B3.ah];exact xL st d v
 |_=>rfl
section
variable {B:Nat} {S:Nat->Prop} {w0:F2} {m0:M} {N:Nat}
variable {P:Program} {num:Nat->Nat} {C:Cl} {Q:Exit->Act->World->Prop}
structure GL(B:Nat)(S:Nat->Prop)(w0:F2)(m0:M)(N:Nat)(T:Nat->AV)(m:M)(a:Act):Prop where
 mem:BH B S w0 m
 ext:CU B S m0 m
 tm:∀i,CV B S m (T i) (a.tmps.getD i undef)
 size:a.tmps.size=N
 defers:a.defers=[]
theorem GL.put{T:Nat->AV}{m m':M}{a:Act}(h:GL B S w0 m0 N T m a)(d:Option Nat)(hd:∀k,d=some k->k<N){v:AV}{u:Value}(hm:BH B S w0 m')(he:CU B S m m')(hc:CV B S m' v u):GL B S w0 m0 N (LD T d v) m' (a.put d u):=by
 refine⟨hm,h.ext.trans he,λi=>?_,?_,?_⟩
 ·cases d with
  |none=>simpa [LD,Act.put]using he.cv (h.tm i)
  |some k=>
   have hk:k<a.tmps.size:=by rw[h.size];exact hd k rfl
   by_cases Gd:i=k
   ·subst Gd
    simp only[LD,if_true,Act.put];simpa [xd,hk]using hc
   ·have o7:¬(some k=some i):=λe=>Gd (by simpa using e.symm)
    simp only[LD,if_neg o7,Act.put];have:(a.tmps.setIfInBounds k u).getD i undef=a.tmps.getD i undef:=by
     simp[Array.getElem?_setIfInBounds_ne (Ne.symm Gd)]
    rw[this];exact he.cv (h.tm i)
 ·cases d<;>simp[Act.put,h.size]
 ·cases d<;>simpa [Act.put]using h.defers
theorem GL.says{T:Nat->AV}{m:M}{a:Act}(h:GL B S w0 m0 N T m a):CB B S m (DY T) a.eval:=Am3 (λ_=>rfl) (λ_=>rfl) h.tm
theorem Aob{T:Nat->AV}{m:M}{a:Act}(h:GL B S w0 m0 N T m a){ops:Array Oper}{o:Oper}{g':Option (Nat×Bool)}(hg:bJ ops o.guard g'=true){g:Bool}(mf:NU T g'=some g):Region.wanted o (yielded ops a.tmps)=g:=by
 unfold Region.wanted;cases Nl:o.guard with
 |none=>
  cases g' with
  |none=>simp[NU]at mf;simp[mf]
  |some _=>simp[bJ,Nl]at hg
 |some jw=>
  obtain⟨j,want⟩:=jw;cases g' with
  |none=>simp[bJ,Nl]at hg
  |some tw=>
   obtain⟨t,Ap6⟩:=tw;simp only[bJ,Nl,ya,beq_iff_eq]at hg;obtain⟨rfl,hg⟩:=hg;split at hg
   ·rename_i oj Jn
    have Mn:oj.dst=some t:=by simpa using hg
    have hcv:=h.tm t;simp only[NU]at mf;unfold yielded;simp only[Jn,Option.bind_some,Mn];split at mf
    ·rename_i b hb
     rw[hb]at hcv;have hv:=VR hcv;have l9:a.tmps[t]?=some (.bool b):=by
      cases ht:a.tmps[t]? with
      |none=>simp[ht,undef]at hv
      |some x=>simp[ht]at hv;rw[hv]
     simp only[l9];simp at mf;rw[<-mf];cases b<;>cases want<;>rfl
    ·rename_i hb
     rw[hb]at hcv;obtain⟨vs,hv,hl,_⟩:=lR hcv;have:vs=[]:=ea (by simpa using hl.symm)
     subst this;simp at mf;subst mf;cases ht:a.tmps[t]? with
     |none=>rfl
     |some x=>
      simp[ht]at hv;subst hv;rfl
    ·cases mf
   ·cases hg
theorem Xk{I:EL}(hC:HE I P num C B w0){ops:Array Oper}{i:Nat}{o:Oper}{ai:AI}(hi:ops[i]?=some o)(k6:iN P num N ops o ai=true){T:Nat->AV}{m:M}{a:Act}(hf:GL B S w0 m0 N T m a){g:Bool}(hg:NU T ai.guard=some g){E:B3}
  (hE:g=true->e9 C ai.b9 (DY T) m.own ai.op=some E) {K:Act->World->Prop} (hK:∀m' a',m'.own=(if g then E.ah m.own else m.own)->GL B S w0 m0 N (LD T ai.dst (if g then E.valOf m.own else .j4 [])) m' a'->K a' m'.w):wpOp P ops Q i K a m.w:=by
 simp only[iN,ya,beq_iff_eq]at k6;obtain⟨⟨⟨⟨h1,h2⟩,h3⟩,h4⟩,h5⟩:=k6;have hd:∀k,o.dst=some k->k<N:=λk hk=>by
  rw[h1]at hk;rw[hk]at h2;simpa using h2
 unfold wpOp;simp only[hi,Aob hf h3 hg];cases g with
 |true=>
  simp only[if_true];refine .inl (Aim hC hf.mem hf.says h4 h5 (hE rfl) K Q λu m' hown kg fm hcv=>?_);refine hK m' _ (by simpa using hown) ?_;rw[<-h1];exact hf.put o.dst hd kg fm hcv
 |false=>
  simp only[zb,if_false];refine hK m _ Z' ?_;rw[<-h1];exact hf.put o.dst hd hf.mem (CU.refl m) Tf
theorem Zg{o:AI}{st n9:St}(h:CQ C o st=some n9):∃g E,NU (j7 st.tm) o.guard=some g/\(g=true->e9 C o.b9 (DY (j7 st.tm)) st.own o.op=some E)/\j7 n9.tm=LD (j7 st.tm) o.dst (if g then E.valOf st.own else .j4 [])/\n9.own=(if g then E.ah st.own else st.own):=by
 unfold CQ at h;rw[Akj]at h;cases hg:NU (j7 st.tm) o.guard with
 |none=>simp[hg]at h
 |some g=>
  cases g with
  |true=>
   simp only[hg,ka]at h;obtain⟨E,hE,rfl⟩:=h;rw[yK]at hE;exact⟨true,E,rfl,λ_=>hE,Af6 st o.dst E,Af5 st o.dst E⟩
  |false=>
   simp only[hg,za]at h;subst h;exact⟨false,.val .any,rfl,λh=>(by cases h),xK st o.dst _,xL st o.dst _⟩
theorem bK{ops:Array Oper}:∀{os:List Oper}{l:List AI},RA P num N ops os l=true->os.length=l.length/\∀(i:Nat)(o:Oper)(x:AI),os[i]?=some o->l[i]?=some x->iN P num N ops o x=true
 |[],[],_=>⟨rfl,λi o x h=>by simp at h⟩
 |o::r,x::l,h=>by
  simp only[RA,ya]at h;obtain⟨h1,h2⟩:=bK h.2;refine⟨by simp[h1],λi o' x' ho hx=>?_⟩;cases i with
  |zero=>simp at ho hx;subst ho hx;exact h.1
  |succ i=>exact h2 i o' x' (by simpa using ho) (by simpa using hx)
 |[],_::_,h=>by simp[RA]at h
 |_::_,[],h=>by simp[RA]at h
theorem Xm{I:EL}(hC:HE I P num C B w0){ops:Array Oper}{l:List AI}(k6:RA P num N ops ops.toList l=true):∀(n k:Nat)(st n9:St)(m:M)(a:Act),n+k=ops.size->DC C (l.drop k) st=some n9->m.own=st.own->GL B S w0 m0 N (j7 st.tm) m a ->
  (∀m' a',m'.own=n9.own->GL B S w0 m0 N (j7 n9.tm) m' a'->Q .normal a' m'.w)->wpOps P ops Q (List.range' k n) a m.w
 |0,k,st,n9,m,a,hk,hs,hown,hf,hQ=>by
  have hl:=(bK k6).1;simp at hl;rw[List.drop_eq_nil_of_le O']at hs;simp only[DC,za]at hs;subst hs;simpa [wpOps]using hQ m a hown hf
 |n+1,k,st,n9,m,a,hk,hs,hown,hf,hQ=>by
  obtain⟨hl,hg⟩:=bK k6;simp at hl;have hkl:k<l.length:=O'
  have hko:k<ops.size:=O'
  rw[Cd hkl]at hs;simp only[DC]at hs;cases o4:CQ C l[k] st with
  |none=>simp[o4]at hs
  |some A7=>
   simp only[o4]at hs;obtain⟨g,E,h1,h2,h3,h4⟩:=Zg o4;rw[List.range'_succ,wpOps_cons];have hoi:ops[k]?=some ops[k]:=Ed hko;refine Xk hC hoi (hg k ops[k] l[k] (by simp[hko]) (zE hkl)) hf h1 (λda=>by rw[hown];exact h2 da) λm' a' lq nq=>?_
   refine Xm hC k6 n (k+1) A7 n9 m' a' O' hs ?_ ?_ hQ
   ·rw[lq,hown,h4]
   ·rw[hown]at nq
    rw[h3];exact nq
end
end Go.Eng

namespace Go.Eng
open Go.RowKit
section
variable {T T':Nat->AV} {C:Cl} {b9:u_} {own:Own}
theorem CT{x:AL}(h:∀t∈CD x,T t=T' t):DY T x=DY T' x:=by
 cases x with
 |t n=>exact h n (by simp[CD])
 |c v=>rfl
theorem WI{xs:List AL}(h:∀t∈xs.flatMap CD,T t=T' t):xs.map (DY T)=xs.map (DY T') :=
 Lb λx hx=>CT λt ht=>h t (Ab.2 ⟨x,hx,ht⟩)
theorem Wp{x:Option AL}(h:∀t∈qJ x,T t=T' t){y:AL}(hy:x=some y):DY T y=DY T' y:=by
 subst hy;exact CT h
theorem Aih{op:DU}(h:∀t∈HB op,T t=T' t):e9 C b9 (DY T) own op=e9 C b9 (DY T') own op:=by
 cases op with
 |build z ps=>
  simp only[e9];congr 2;refine Lb λp hp=>?_
  rw[CT (x:=p.2.2) λt ht=>h t (by simp only[HB];exact Ab.2 ⟨p,hp,ht⟩)]
 |b8 s a7 ps=>
  have hm:ps.mapM (λx=>cellsOf (DY T x))=ps.mapM (λx=>cellsOf (DY T' x)):=by
   have e:∀l:List AL,(∀x∈l,DY T x=DY T' x)->l.mapM (λx=>cellsOf (DY T x))=l.mapM (λx=>cellsOf (DY T' x)):=by
    intro l;induction l with
    |nil=>intro _;rfl
    |cons x r ih=>intro hl;simp only[fb];rw[hl x Z',ih λy hy=>hl y (by simp[hy])]
   exact e ps λx hx=>CT λt ht=>h t (by simp only[HB];exact Ab.2 ⟨x,hx,ht⟩)
  simp only[e9,hm]
 |lit a7 ps=>
  have hm:ps.mapM (λx=>cellsOf (DY T x))=ps.mapM (λx=>cellsOf (DY T' x)):=by
   have e:∀l:List AL,(∀x∈l,DY T x=DY T' x)->l.mapM (λx=>cellsOf (DY T x))=l.mapM (λx=>cellsOf (DY T' x)):=by
    intro l;induction l with
    |nil=>intro _;rfl
    |cons x r ih=>intro hl;simp only[fb];rw[hl x Z',ih λy hy=>hl y (by simp[hy])]
   exact e ps λx hx=>CT λt ht=>h t (by simp only[HB];exact Ab.2 ⟨x,hx,ht⟩)
  simp only[e9,hm]
 |mm mx xs=>simp only[e9];rw[WI (xs:=xs) h]
 |call f xs=>simp only[e9];rw[WI (xs:=xs) h]
 |j5 f xs=>simp only[e9];rw[WI (xs:=xs) h]
 |ta ne x=>simp only[e9];rw[CT (x:=x) h]
 |bad=>rfl
 |kx x=>simp only[e9];rw[CT (x:=x) h]
 |pj s=>rfl
 |nf a7 bytes x y=>
  simp only[HB,Ca]at h;simp only[e9];rw[CT (x:=x) λt ht=>h t (.inl ht),CT (x:=y) λt ht=>h t (.inr ht)]
 |fe fs f a7 x c=>
  simp only[HB,Ca]at h;simp only[e9];rw[CT (x:=x) λt ht=>h t (.inl ht),CT (x:=c) λt ht=>h t (.inr ht)]
 |ql x k=>
  simp only[HB,Ca]at h;simp only[e9];rw[CT (x:=x) λt ht=>h t (.inl ht),CT (x:=k) λt ht=>h t (.inr ht)]
 |pn x k v=>
  simp only[HB,Ca]at h;simp only[e9];rw[CT (x:=x) λt ht=>h t (.inl (.inl ht)),CT (x:=k) λt ht=>h t (.inl (.inr ht)),CT (x:=v) λt ht=>h t (.inr ht)]
 |ix tb x=>simp only[e9];rw[CT (x:=x) h]
 |pg p f xs=>
  have e:∀l:List AL,(∀x∈l,DY T x=DY T' x)->l.mapM (λx=>IA (DY T x))=l.mapM (λx=>IA (DY T' x)):=by
   intro l;induction l with
   |nil=>intro _;rfl
   |cons x r ih=>intro hl;simp only[fb];rw[hl x Z',ih λy hy=>hl y (by simp[hy])]
  simp only[e9];rw[e xs λx hx=>CT λt ht=>h t (by simp only[HB];exact Ab.2 ⟨x,hx,ht⟩)]
 |o5 f xs=>simp only[e9];rw[WI (xs:=xs) h]
 |x5 s f xs=>simp only[e9];rw[WI (xs:=xs) h]
 |cz s f xs=>simp only[e9];rw[WI (xs:=xs) h]
 |po s n x v=>
  simp only[HB,Ca]at h;simp only[e9];rw[CT (x:=x) λt ht=>h t (.inl ht),CT (x:=v) λt ht=>h t (.inr ht)]
 |u6 x xs=>
  simp only[HB,Ca]at h;simp only[e9];rw[CT (x:=x) λt ht=>h t (.inl ht),WI (xs:=xs) λt ht=>h t (.inr ht)]
 |ik a7 x lo hi=>
  simp only[HB,Ca]at h;have hx:DY T x=DY T' x:=CT λt ht=>h t (.inl (.inl ht))
  have w7:∀y,lo=some y->DY T y=DY T' y:=λy hy=>Wp (λt ht=>h t (.inl (.inr ht))) hy
  have Jh:∀y,hi=some y->DY T y=DY T' y:=λy hy=>Wp (λt ht=>h t (.inr ht)) hy
  simp only[e9,hx];cases lo with
  |none=>cases hi with
   |none=>rfl
   |some y=>simp only[Jh y rfl]
  |some z=>cases hi with
   |none=>simp only[w7 z rfl]
   |some y=>simp only[w7 z rfl,Jh y rfl]
 |z8=>rfl
 |alloc=>rfl
 |o9 x=>simp only[e9];rw[CT (x:=x) h]
 |un f x=>simp only[e9];rw[CT (x:=x) h]
 |conv k x=>simp only[e9];rw[CT (x:=x) h]
 |box s x=>simp only[e9];rw[CT (x:=x) h]
 |l8 x off=>simp only[e9];rw[CT (x:=x) h]
 |nj x off n agg=>simp only[e9];rw[CT (x:=x) h]
 |ld agg n x=>simp only[e9];rw[CT (x:=x) h]
 |ext x i=>simp only[e9];rw[CT (x:=x) h]
 |len x=>simp only[e9];rw[CT (x:=x) h]
 |pick c x y=>
  simp only[HB,Ca]at h;simp only[e9];rw[CT (x:=c) λt ht=>h t (.inl (.inl ht)),CT (x:=x) λt ht=>h t (.inl (.inr ht)),CT (x:=y) λt ht=>h t (.inr ht)]
 |bin f x y=>
  simp only[HB,Ca]at h;simp only[e9];rw[CT (x:=x) λt ht=>h t (.inl ht),CT (x:=y) λt ht=>h t (.inr ht)]
 |beq ne x y=>
  simp only[HB,Ca]at h;simp only[e9];rw[CT (x:=x) λt ht=>h t (.inl ht),CT (x:=y) λt ht=>h t (.inr ht)]
 |q8 arr a7 x i=>
  simp only[HB,Ca]at h;simp only[e9];rw[CT (x:=x) λt ht=>h t (.inl ht),CT (x:=i) λt ht=>h t (.inr ht)]
 |st n x v=>
  simp only[HB,Ca]at h;simp only[e9];rw[CT (x:=x) λt ht=>h t (.inl ht),CT (x:=v) λt ht=>h t (.inr ht)]
 |mk s a7 bytes z l c=>
  simp only[HB,Ca]at h;simp only[e9];rw[CT (x:=l) λt ht=>h t (.inl ht),CT (x:=c) λt ht=>h t (.inr ht)]
 |app s a7 bytes x y=>
  simp only[HB,Ca]at h;simp only[e9];rw[CT (x:=x) λt ht=>h t (.inl ht),CT (x:=y) λt ht=>h t (.inr ht)]
 |di s a7 bytes x y=>
  simp only[HB,Ca]at h;simp only[e9];rw[CT (x:=x) λt ht=>h t (.inl ht),CT (x:=y) λt ht=>h t (.inr ht)]
theorem Qm(o:Own)(l:u_)(s:Nat):o.s9 l s=if s∈l then⟨0,λ_=>none⟩else o s:=by
 induction l with
 |nil=>simp[Own.s9]
 |cons x r ih=>
  simp only[Own.s9,Ac];by_cases h:s=x
  ·simp[h]
  ·rw[if_neg h,ih]
   simp[h]
theorem Aky{o o':Own}{l:u_}(h:∀s,s ∉ l->o s=o' s):o.s9 l=o'.s9 l:=by
 funext s
 rw[Qm,Qm];split
 ·rfl
 ·rename_i hs;exact h s hs
end
section
variable {ops:Array Oper}
def inner(acc:Array Nat)(o:Oper):Nat:=o.after.foldl (λs e=>if Region.binds .any e then s ||| 2^e.on ||| acc.getD e.on 0 else s) 0
theorem AkE(acc:Array Nat)(o:Oper)(j:Nat)(h:(inner acc o).testBit j=true):∃e∈o.after,Region.binds .any e=true/\(e.on=j\/(acc.getD e.on 0).testBit j=true):=by
 unfold inner at h;rw[<-Oc]at h;have key:∀(l:List Edge)(s:Nat),(l.foldl (λs e=>if Region.binds .any e then s ||| 2^e.on ||| acc.getD e.on 0 else s) s).testBit j=true->s.testBit j=true\/∃e∈l,Region.binds .any e=true/\(e.on=j\/(acc.getD e.on 0).testBit j=true):=by
  intro l;induction l with
  |nil=>intro s hs;exact .inl hs
  |cons e r ih=>
   intro s hs;simp only[Od]at hs;rcases ih _ hs with h1|⟨e',im,h2⟩
   ·by_cases hb:Region.binds .any e=true
    ·simp only[hb,if_true,Nat.testBit_or,Gb,Nat.testBit_two_pow,decide_eq_true_eq]at h1
     rcases h1 with(h1|h1)|h1
     ·exact .inl h1
     ·exact .inr ⟨e,Z',hb,.inl h1⟩
     ·exact .inr ⟨e,Z',hb,.inr h1⟩
    ·simp only[hb,zb,if_false]at h1
     exact .inl h1
   ·exact .inr ⟨e',by simp[im],h2⟩
 rcases key _ _ h with h|⟨e,he,h⟩
 ·simp at h
 ·exact⟨e,by simpa using he,h⟩
theorem Af8(i j:Nat)(h:((Region.before ops).getD i 0).testBit j=true):∃o,ops[i]?=some o/\∃e∈o.after,Region.binds .any e=true/\(e.on=j\/(e.on<i/\((Region.before ops).getD e.on 0).testBit j=true)):=by
 have key:∀(rest:List Oper)(done:List Oper)(acc:Array Nat),acc.size=done.length ->
   (∀i j,(acc.getD i 0).testBit j=true->∃o,done[i]?=some o/\∃e∈o.after,Region.binds .any e=true/\(e.on=j\/(e.on<i/\(acc.getD e.on 0).testBit j=true))) ->
   ∀i j,((rest.foldl (λacc o=>acc.push (inner acc o)) acc).getD i 0).testBit j=true->∃o,(done++rest)[i]?=some o/\∃e∈o.after,Region.binds .any e=true/\(e.on=j\/(e.on<i/\((rest.foldl (λacc o=>acc.push (inner acc o)) acc).getD e.on 0).testBit j=true)):=by
  intro rest;induction rest with
  |nil=>intro done acc hs hinv i j hj;simpa using hinv i j hj
  |cons o r ih=>
   intro done acc hs hinv i j hj;simp only[Od]at hj⊢;have:=ih (done++[o]) (acc.push (inner acc o)) (by simp[hs]) (λi j jf=>?_) i j hj
   ·simpa using this
   ·have l9:∀k,k<acc.size->(acc.push (inner acc o)).getD k 0=acc.getD k 0:=λk hk=>by
     simp[xd,hk,Nat.lt_succ_of_lt hk,Array.getElem_push_lt hk]
    by_cases hi:i<acc.size
    ·rw[l9 i hi]at jf
     obtain⟨o',yh,e,he,hb,dp⟩:=hinv i j jf;refine⟨o',by rw[Fa O'];exact yh,e,he,hb,dp.imp id λ⟨h1,h2⟩=>⟨h1,by rw[l9 e.on O'];exact h2⟩⟩
    ·have Gc:i=acc.size:=by
      rcases Db i (acc.push (inner acc o)).size with h1|h1
      ·simp at h1;omega
      ·have:(acc.push (inner acc o)).getD i 0=0:=by simp[xd];intro h2;simp at h1;omega
       rw[this]at jf;simp at jf
     subst Gc;have dn:(acc.push (inner acc o)).getD acc.size 0=inner acc o:=by simp[xd]
     rw[dn]at jf;obtain⟨e,he,hb,dp⟩:=AkE acc o j jf;refine⟨o,by rw[hs];simp,e,he,hb,dp.imp id λh2=>?_⟩;have hlt:e.on<acc.size:=by
      rcases Db e.on acc.size with h3|h3
      ·exact h3
      ·have:acc.getD e.on 0=0:=by simp[xd];omega
       rw[this]at h2;simp at h2
     exact⟨hlt,by rw[l9 e.on hlt];exact h2⟩
 have hb:Region.before ops=ops.toList.foldl (λacc o=>acc.push (inner acc o)) #[]:=by
  unfold Region.before;rw[<-Oc];rfl
 rw[hb]at h⊢;have:=key ops.toList [] #[] rfl (λi j jf=>by simp at jf) i j h
 simpa using this
def XG(ops:Array Oper)(X:Nat->Bool):Prop := ∀j o,X j=true->ops[j]?=some o->∀e∈o.after,Region.binds .any e=true->X e.on=true
theorem Zv{X:Nat->Bool}(hX:XG ops X):∀(i:Nat),(∀o,ops[i]?=some o->∀e∈o.after,Region.binds .any e=true->X e.on=true)->∀j,((Region.before ops).getD i 0).testBit j=true->X j=true:=by
 intro i;induction i using Nat.strongRecOn with
 |ind i ih=>
  intro hi j hj;obtain⟨o,ho,e,he,hb,dp⟩:=Af8 i j hj;have hx:=hi o ho e he hb;rcases dp with h|⟨hlt,h⟩
  ·rw[<-h];exact hx
  ·exact ih e.on hlt (λo' yh e' im j8=>hX e.on o' hx yh e' im j8) j h
theorem Amg{X:Nat->Bool}(hX:XG ops X){i j:Nat}(hi:∀o,ops[i]?=some o->∀e∈o.after,Region.binds .any e=true->X e.on=true)(hlt:j<i)(h:J6 (Region.before ops) i j=true):X j=true:=by
 unfold J6 at h;rw[Nat.max_eq_left O',Nat.min_eq_right O']at h;exact Zv hX i hi j h
theorem Wr{X:Nat->Bool}(hX:XG ops X){i j:Nat}(hj:X j=true)(hlt:i<j)(h:J6 (Region.before ops) i j=true):X i=true:=by
 unfold J6 at h;rw[Nat.max_eq_right O',Nat.min_eq_left O']at h;exact Zv hX j (λo ho e he hb=>hX j o hj ho e he hb) i h
end
section
variable {C:Cl}
abbrev D:=(Nat->AV)×Own
structure DQ where
 d:Option Nat
 g:Bool
 E:B3
 v:AV
def DQ.own(r:DQ)(o:Own):Own:=if r.g then r.E.ah o else o
def DQ.act(r:DQ)(x:D):D:=(LD x.1 r.d r.v,r.own x.2)
structure QF(C:Cl)(x:AI)(r:DQ)(s s':St):Prop where
 d:r.d=x.dst
 g:NU (j7 s.tm) x.guard=some r.g
 E:r.g=true->e9 C x.b9 (DY (j7 s.tm)) s.own x.op=some r.E
 v:r.v=(if r.g then r.E.valOf s.own else .j4 [])
 act:(j7 s'.tm,s'.own)=r.act (j7 s.tm,s.own)
theorem trace:∀{l:List AI}{st n9:St},DC C l st=some n9->∃(σ:Nat->St) (rs:List DQ),σ 0=st/\σ l.length=n9/\rs.length=l.length/\∀(k:Nat)(x:AI)(r:DQ),l[k]?=some x->rs[k]?=some r->QF C x r (σ k) (σ (k+1))
 |[],st,n9,h=>by
  simp only[DC,za]at h;subst h;exact⟨λ_=>st,[],rfl,rfl,rfl,λk x r hx=>by simp at hx⟩
 |o::q,st,n9,h=>by
  simp only[DC]at h;cases hs:CQ C o st with
  |none=>simp[hs]at h
  |some A7=>
   simp only[hs]at h;obtain⟨σ,rs,h0,h1,hl,h2⟩:=trace h;obtain⟨g,E,e1,e2,e3,e4⟩:=Zg hs;refine⟨λk=>match k with|0=>st|k+1=>σ k,⟨o.dst,g,E,if g then E.valOf st.own else .j4 []⟩::rs,rfl,h1,by simp[hl],λk x r hx hr=>?_⟩;cases k with
   |zero=>
    simp at hx hr;subst hx hr;refine⟨rfl,e1,e2,rfl,?_⟩;show(j7 (σ 0).tm,(σ 0).own)=_;rw[h0,e3,e4];rfl
   |succ k=>exact h2 k x r (by simpa using hx) (by simpa using hr)
def DZ(X:Nat->Bool):List DQ->Nat->D->D
 |[],_,x=>x
 |r::rs,k,x=>DZ X rs (k+1) (if X k then r.act x else x)
theorem nP(X:Nat->Bool):∀(l l':List DQ)(k:Nat)(x:D),DZ X (l++l') k x=DZ X l' (k+l.length) (DZ X l k x)
 |[],l',k,x=>by simp[DZ]
 |r::rs,l',k,x=>by
  simp only[List.cons_append,DZ,Jc];rw[nP X rs l' (k+1)];congr 1;omega
theorem Rr{X Y:Nat->Bool}{t:Nat}:∀(l:List DQ)(k:Nat)(x y:D),x.1 t=y.1 t->(∀i r,l[i]?=some r->r.d=some t->X (k+i)=Y (k+i))->(DZ X l k x).1 t=(DZ Y l k y).1 t
 |[],k,x,y,h,_=>h
 |r::rs,k,x,y,h,uo=>by
  simp only[DZ];refine Rr rs (k+1) _ _ ?_ λi r' hr hd=>by
   have:=uo (i+1) r' (by simpa using hr) hd
   rw[show k+1+i=k+(i+1)by omega];exact this
  by_cases hd:r.d=some t
  ·have hx:X k=Y k:=by simpa using uo 0 r rfl hd
   rw[hx];cases Y k
   ·simpa using h
   ·simp[DQ.act,LD,hd]
  ·have e1:∀z:D,(r.act z).1 t=z.1 t:=λz=>by simp[DQ.act,LD,hd]
   cases X k<;>cases Y k<;>simp[e1,h]
theorem Amh(E:B3)(s:Nat)(o o':Own)(h:o s=o' s):E.ah o s=E.ah o' s:=by
 cases E with
 |val v=>exact h
 |new s' b v=>
  simp only[B3.ah,Own.put];by_cases hs:s=s'
  ·subst hs;simp[h]
  ·simp[hs,h]
 |zj s' b v=>
  simp only[B3.ah,Own.put];by_cases hs:s=s'
  ·subst hs;simp[h]
  ·simp[hs,h]
 |bz v o2=>rfl
 |Au s' v o2=>
  simp only[B3.ah,Own.put];by_cases hs:s=s'
  ·subst hs;simp[h]
  ·simp[hs]
 |rp s' x v=>
  simp only[B3.ah,Own.put];by_cases hs:s=s'
  ·simp[hs]
  ·simp[hs,h]
 |q9 s' x=>
  simp only[B3.ah,Own.put];by_cases hs:s=s'
  ·simp[hs]
  ·simp[hs,h]
theorem Rq{X Y:Nat->Bool}{s:Nat}:∀(l:List DQ)(k:Nat)(x y:D),x.2 s=y.2 s->(∀i r,l[i]?=some r->X (k+i)=Y (k+i)\/∀o,r.own o s=o s)->(DZ X l k x).2 s=(DZ Y l k y).2 s
 |[],k,x,y,h,_=>h
 |r::rs,k,x,y,h,uo=>by
  simp only[DZ];refine Rq rs (k+1) _ _ ?_ λi r' hr=>by
   have:=uo (i+1) r' (by simpa using hr)
   rw[show k+1+i=k+(i+1)by omega];exact this
  rcases uo 0 r rfl with hx|hx
  ·simp only[kd]at hx
   rw[hx];cases Y k
   ·simpa using h
   ·simp only[if_true,DQ.act,DQ.own]
    cases r.g
    ·simpa using h
    ·simpa using Amh r.E s _ _ h
  ·have e1:∀z:D,(r.act z).2 s=z.2 s:=λz=>hx z.2
   cases X k<;>cases Y k<;>simp[e1,h]
theorem nQ{X:Nat->Bool}(q:DQ):∀(l:List DQ)(k:Nat)(x:D),(∀i r,l[i]?=some r->X (k+i)=true->∀z,r.act (q.act z)=q.act (r.act z))->DZ X l k (q.act x)=q.act (DZ X l k x)
 |[],k,x,_=>rfl
 |r::rs,k,x,h=>by
  simp only[DZ];have fj:∀i r',rs[i]?=some r'->X (k+1+i)=true->∀z,r'.act (q.act z)=q.act (r'.act z):=λi r' hr hX=>h (i+1) r' (by simpa using hr) (by rw[show k+(i+1)=k+1+i by omega];exact hX)
  cases hk:X k
  ·simp only[zb,if_false]
   exact nQ q rs (k+1) x fj
  ·simp only[if_true]
   rw[h 0 r rfl (by simpa using hk)];exact nQ q rs (k+1) _ fj
theorem gC{X Y:Nat->Bool}:∀(l:List DQ)(k:Nat)(x:D),(∀i,i<l.length->X (k+i)=Y (k+i))->DZ X l k x=DZ Y l k x
 |[],_,_,_=>rfl
 |r::rs,k,x,h=>by
  simp only[DZ];rw[show X k=Y k by simpa using h 0 Z'];exact gC rs (k+1) _ λi hi=>by
   have:=h (i+1) (by simpa using hi)
   rw[show k+1+i=k+(i+1)by omega];exact this
theorem Rp{X X':Nat->Bool}{l:List DQ}{i:Nat}{q:DQ}(hq:l[i]?=some q)(mr:X i=false)(wk:∀j,X' j=(decide (j=i)||X j))(x:D)(Ft:∀j r,l[j]?=some r->i<j->X j=true->∀z,r.act (q.act z)=q.act (r.act z)) :
  DZ X' l 0 x=q.act (DZ X l 0 x):=by
 have hil:i<l.length:=(zS hq).1;have hli:l=l.take i++(q::l.drop (i+1)):=by
  have:l.drop i=q::l.drop (i+1):=by
   rw[Cd hil];congr 1;have:=(zS hq).2
   exact this
  rw[<-this,List.take_append_drop]
 have de:(l.take i).length=i:=by simp;omega
 rw[hli,nP,nP,de,qb];simp only[DZ,mr,zb,if_false];rw[show X' i=true by rw[wk];simp];simp only[if_true];rw[gC (X:=X') (Y:=X) (l.take i) 0 x (λj hj=>by rw[wk];simp;omega)];rw[gC (X:=X') (Y:=X) (l.drop (i+1)) (i+1) _ (λj hj=>by rw[wk];simp;omega)];refine nQ q _ _ _ λj r hr Lu=>?_
 rw[Ja]at hr;exact Ft (i+1+j) r hr O' Lu
end
end Go.Eng

namespace Go.Eng
open Go.RowKit
section
variable {C:Cl} {b9:u_} {ρ:AL->AV}
theorem Aik{op:DU}(o o':Own)(ht:GJ op=false)(hr:WN op=true->o.s9 b9=o'.s9 b9)(o4:∀s,EJ op=some s->o s=o' s):e9 C b9 ρ o op=e9 C b9 ρ o' op:=by
 cases op with
 |po s n x v=>
  have h1:=o4 s rfl;have h2:∀t i j vs,(o.om s t i j vs).map (λq=>B3.q9 s (q s))=(o'.om s t i j vs).map (λq=>B3.q9 s (q s)):=λt i j vs=>by
   have hg:o.get s t=o'.get s t:=by unfold Own.get;rw[h1]
   unfold Own.om;rw[hg];cases o'.get s t with
   |none=>rfl
   |some b=>
    simp only;cases b.es[i]? with
    |none=>rfl
    |some cs=>
     simp only;split
     ·simp only[Aa,Own.k9,h1]
     ·rfl
  simp only[e9,h2]
 |di s a7 bytes x y=>
  have h1:=o4 s rfl;have hg:∀t,o.get s t=o'.get s t:=λt=>by unfold Own.get;rw[h1]
  simp only[e9,hg,Own.j6,h1]
 |ld agg n x=>have:=hr rfl;simp only[e9,this]
 |call f xs=>have:=hr rfl;simp only[e9,this]
 |ql x k=>have:=hr rfl;simp only[e9,this]
 |pj=>simp[GJ]at ht
 |nf=>simp[GJ]at ht
 |fe=>simp[GJ]at ht
 |pn=>simp[GJ]at ht
 |x5 s f xs=>have:=hr rfl;simp only[e9,this]
 |cz s f xs=>have h1:=o4 s rfl;simp only[e9,h1]
 |st=>simp[GJ]at ht
 |app=>simp[GJ]at ht
 |j5=>simp[GJ]at ht
 |u6=>simp[GJ]at ht
 |_=>rfl
theorem xS{op:DU}{o:Own}{E:B3}(h:e9 C b9 ρ o op=some E){s:Nat}(hs:EJ op=some s):(∃b v,E = .new s b v\/E = .zj s b v)\/∃x v,E = .q9 s x\/E = .rp s x v:=by
 cases op with
 |di s' a7 bytes x y=>
  simp only[EJ,za]at hs;subst hs;simp only[e9]at h;split at h
  ·split at h
   ·split at h
    ·simp only[za]at h;exact .inr ⟨_,_,.inr h.symm⟩
    ·cases h
   ·cases h
  ·split at h
   ·simp only[za]at h;exact .inr ⟨_,_,.inr h.symm⟩
   ·cases h
  ·cases h
 |po s' n x v=>
  simp only[EJ,za]at hs;subst hs;simp only[e9]at h;split at h
  ·split at h
   ·simp only[ka]at h
    obtain⟨q,_,rfl⟩:=h;exact .inr ⟨_,.any,.inl rfl⟩
   ·cases h
  ·cases h
 |x5 s' f xs=>
  simp only[EJ,za]at hs;subst hs;simp only[e9]at h;split at h
  ·simp only[ka]at h
   obtain⟨r,_,rfl⟩:=h;exact .inl ⟨_,_,.inl rfl⟩
  ·cases h
 |cz s' f xs=>
  simp only[EJ,za]at hs;subst hs;simp only[e9,ka]at h;obtain⟨p,_,rfl⟩:=h;exact .inr ⟨_,_,.inr rfl⟩
 |z8 s' z=>
  simp only[EJ,za]at hs;subst hs;simp only[e9,za]at h;exact .inl ⟨_,_,.inr h.symm⟩
 |box s' x=>
  simp only[EJ,za]at hs;subst hs;simp only[e9]at h;split at h
  ·simp only[za]at h;exact .inl ⟨_,_,.inl h.symm⟩
  ·cases h
 |alloc s' z=>
  simp only[EJ,za]at hs;subst hs;simp only[e9,za]at h;exact .inl ⟨_,_,.inl h.symm⟩
 |b8 s' a7 ps=>
  simp only[EJ,za]at hs;subst hs;simp only[e9]at h;split at h
  ·split at h
   ·simp only[za]at h;exact .inl ⟨_,_,.inl h.symm⟩
   ·cases h
  ·cases h
 |mk s' a7 bytes z l c=>
  simp only[EJ,za]at hs;subst hs;simp only[e9]at h;split at h
  ·split at h
   ·simp only[za]at h;exact .inl ⟨_,_,.inl h.symm⟩
   ·cases h
  ·cases h
 |_=>simp[EJ]at hs
theorem pE{α:Type}{x:Option α}{f:α->AV}{E:B3}(h:x.map (λy=>B3.val (f y))=some E):∃v,E = .val v:=by
 cases x with
 |none=>cases h
 |some y=>simp only[Aa,za]at h;exact⟨_,h.symm⟩
theorem xT{op:DU}{o:Own}{E:B3}(h:e9 C b9 ρ o op=some E)(ht:GJ op=false)(hs:EJ op=none):∃v,E = .val v:=by
 cases op<;>first|(simp[GJ]at ht;done)|(simp[EJ]at hs;done)|skip
 all_goals simp only[e9]at h
 all_goals
  first
   |(simp only[za]at h;exact⟨_,h.symm⟩)
   |exact pE (f:=id) h
   |skip
 all_goals (repeat' split at h)
 all_goals
  first
   |(cases h;done)
   |(simp only[za]at h;exact⟨_,h.symm⟩)
   |exact pE (f:=id) h
   |exact pE (f:=AV.agg) h
   |(simp only[ka]at h;obtain⟨cs,_,rfl⟩:=h;exact⟨_,rfl⟩)
theorem WM{x:AI}{r:DQ}{s s':St}(h:QF C x r s s')(ht:GJ x.op=false)(hs:EJ x.op=none)(o:Own):r.own o=o:=by
 unfold DQ.own;cases hg:r.g with
 |false=>rfl
 |true=>
  obtain⟨v,hv⟩:=xT (h.E hg) ht hs;simp[hv,B3.ah]
theorem iX{x:AI}{r:DQ}{s s':St}(h:QF C x r s s'){q:Nat}(hs:EJ x.op=some q):(∀o,r.own o=o)\/∃F:BZ->BZ,∀o:Own,r.own o=o.put q (F (o q)):=by
 unfold DQ.own;cases hg:r.g with
 |false=>exact .inl λ_=>rfl
 |true=>
  rcases xS (h.E hg) hs with⟨b,v,hv|hv⟩|⟨x,v,hv|hv⟩
  ·exact .inr ⟨λq=>q.new b,λo=>by simp[hv,B3.ah]⟩
  ·exact .inr ⟨λq=>q.new b,λo=>by simp[hv,B3.ah]⟩
  ·exact .inr ⟨λ_=>x,λo=>by simp[hv,B3.ah]⟩
  ·exact .inr ⟨λ_=>x,λo=>by simp[hv,B3.ah]⟩
theorem qV{x:AI}{r:DQ}{s s':St}(h:QF C x r s s'){q:Nat}(hs:EJ x.op=some q){p:Nat}(hp:p≠q)(o:Own):r.own o p=o p:=by
 rcases iX h hs with h1|⟨b,h1⟩
 ·rw[h1]
 ·rw[h1];simp[Own.put,hp]
theorem Tz{x:AI}{s:Nat}(h:OM x=some s):∃f xs,x.op = .j5 f xs/\x.b9=[s]:=by
 unfold OM at h;split at h
 ·rename_i f xs s' h1 h2
  obtain rfl:=ga h;exact⟨f,xs,h1,h2⟩
 ·cases h
theorem gQ{x y:AI}(h:YH x y=true):∃s,OM x=some s/\EJ y.op=some s/\GJ y.op=false/\WN y.op=false:=by
 unfold YH at h;split at h
 ·rename_i s hs
  simp only[ya,beq_iff_eq,Eb]at h;exact⟨s,hs,h.1,h.2.1,h.2.2⟩
 ·cases h
theorem Agv{f:Nat}{vs:w_}{s:Nat}{o o':Own}(h:∀q,q≠s->o q=o' q):OE C f vs s o=OE C f vs s o':=by
 have e:(λp:AV×Own=>∀u:Own,(∀q,q≠s->u q=o q)->C.fq f vs u=some (p.1,p.2.put s (u s)))=λp:AV×Own=>∀u:Own,(∀q,q≠s->u q=o' q)->C.fq f vs u=some (p.1,p.2.put s (u s)):=by
  funext p
  refine propext ⟨λg u hu=>g u λq hq=>by rw[hu q hq,h q hq],λg u hu=>g u λq hq=>by rw[hu q hq,h q hq]⟩
 cases h1:OE C f vs s o with
 |some p=>
  have h2:=dX h1;exact(dW h2.1 λu hu=>h2.2 u λq hq=>by rw[hu q hq,h q hq]).symm
 |none=>
  cases h3:OE C f vs s o' with
  |none=>rfl
  |some p=>
   have h2:=dX h3;rw[dW h2.1 λu hu=>h2.2 u λq hq=>by rw[hu q hq,h q hq]]at h1;cases h1
theorem xR{x:AI}{s:Nat}(hk:OM x=some s){o:Own}{E:B3}(h:e9 C x.b9 ρ o x.op=some E):∃v o',E = .Au s v o':=by
 obtain⟨f,xs,h1,h2⟩:=Tz hk;rw[h1,h2]at h;simp only[e9,ka]at h;obtain⟨p,_,rfl⟩:=h;exact⟨_,_,rfl⟩
theorem Xb{x:AI}{r:DQ}{s s':St}(h:QF C x r s s'){q:Nat}(hk:OM x=some q):(∀o,r.own o=o)\/∃o':Own,∀o:Own,r.own o=o'.put q (o q):=by
 unfold DQ.own;cases hg:r.g with
 |false=>exact .inl λ_=>rfl
 |true=>
  obtain⟨v,o',hv⟩:=xR hk (h.E hg);exact .inr ⟨o',λo=>by simp[hv,B3.ah]⟩
theorem Wq(b:Array Nat)(i j:Nat):J6 b i j=J6 b j i:=by unfold J6;rw[Nat.max_comm,Nat.min_comm]
theorem VW{ops:Array Oper}{l:List AI}(h:VV ops l=true){i j:Nat}{x y:AI}(hx:l[i]?=some x)(hy:l[j]?=some y)(o7:i≠j) :
  (J6 (Region.before ops) i j=true\/((∀t,y.dst=some t->t ∉ YL x)/\(GJ x.op=false\/MR y.op=false\/YH x y=true)/\(WN x.op=true->∀s,EJ y.op=some s->s∈x.b9))) /\
  (J6 (Region.before ops) i j=true\/∀s s',EJ x.op=some s->EJ y.op=some s'->s≠s'):=by
 simp only[VV,ya]at h;have h1:=h.1.1;rw[Hc]at h1;have Dv:(x,i)∈l.zipIdx:=cd.2 hx;have hym:(y,j)∈l.zipIdx:=cd.2 hy;have h2:=h1 (x,i) Dv;simp only at h2;rw[Hc]at h2;have h3:=h2 (y,j) hym;simp only[ya,Gb,beq_iff_eq,o7,false_or]at h3;obtain⟨h4,h5⟩:=h3;refine⟨?_,h5.imp id λh5 s s' hs ua=>?_⟩
 ·unfold Wu at h4
  simp only[Gb,beq_iff_eq,o7,false_or]at h4;refine h4.imp id λh6=>?_
  simp only[ya,Gb,Eb]at h6;obtain⟨⟨h7,h8⟩,h9⟩:=h6;refine⟨λt ht=>?_,or_assoc.1 h8,λhr s hs=>?_⟩
  ·rw[ht]at h7
   simpa using h7
  ·rw[hr,hs]at h9
   simpa using h9
 ·rw[hs,ua]at h5
  simpa using h5
structure dA(C:Cl)(ops:Array Oper)(l:List AI)(σ:Nat->St)(rs:List DQ):Prop where
 ok:VV ops l=true
 len:rs.length=l.length
 fits:∀(k:Nat)(x:AI)(r:DQ),l[k]?=some x->rs[k]?=some r->QF C x r (σ k) (σ (k+1))
variable {ops:Array Oper} {l:List AI} {σ:Nat->St} {rs:List DQ}
theorem nR{X:Nat->Bool}:∀(l:List DQ)(k:Nat)(x:D),(∀i,i<l.length->X (k+i)=false)->DZ X l k x=x
 |[],_,_,_=>rfl
 |r::q,k,x,h=>by
  simp only[DZ];rw[show X k=false by simpa using h 0 Z'];exact nR q (k+1) _ λi hi=>by
   have:=h (i+1) (by simpa using hi)
   rw[show k+1+i=k+(i+1)by omega];exact this
def d0(σ:Nat->St):D:=(j7 (σ 0).tm,(σ 0).own)
theorem mJ(h:dA C ops l σ rs):∀k,k<=l.length->DZ (λj=>decide (j<k)) rs 0 (d0 σ)=(j7 (σ k).tm,(σ k).own)
 |0,_=>nR rs 0 _ λi _=>Z'
 |k+1,hk=>by
  have hkl:k<l.length:=O'
  have hkr:k<rs.length:=by rw[h.len];exact hkl
  have hr:rs[k]?=some rs[k]:=zE hkr;have hf:=h.fits k l[k] rs[k] (zE hkl) hr;rw[Rp (X:=λj=>decide (j<k)) (X':=λj=>decide (j<k+1)) hr Z' (λj=>by
   by_cases h1:j=k
   ·simp[h1]
   ·simp[h1];omega) _ (λj r' _ hlt hX=>by simp at hX;omega),mJ h k O']
  exact hf.act.symm
section
variable {X:Nat->Bool} {i:Nat} {x:AI} {r:DQ}
theorem Ws(hX:XG ops X)(mr:X i=false)(fp:∀o,ops[i]?=some o->∀e∈o.after,Region.binds .any e=true->X e.on=true){j:Nat}(o7:i≠j)(ho:J6 (Region.before ops) i j=true):X j=decide (j<i):=by
 rcases Be o7 with hlt|mf
 ·have:X j=false:=by
   cases hj:X j with
   |false=>rfl
   |true=>have:=Wr hX hj hlt ho;rw[mr]at this;cases this
  rw[this];simp;omega
 ·rw[Amg hX fp mf ho];simp;omega
theorem Ah8(h:dA C ops l σ rs)(hx:l[i]?=some x)(hr:rs[i]?=some r)(hX:XG ops X)(mr:X i=false)(fp:∀o,ops[i]?=some o->∀e∈o.after,Region.binds .any e=true->X e.on=true) :
  NU (DZ X rs 0 (d0 σ)).1 x.guard=some r.g/\(r.g=true->e9 C x.b9 (DY (DZ X rs 0 (d0 σ)).1) (DZ X rs 0 (d0 σ)).2 x.op=some r.E) /\
  (if r.g then r.E.valOf (DZ X rs 0 (d0 σ)).2 else .j4 [])=r.v /\
  ∀X':Nat->Bool,(∀j,X' j=(decide (j=i)||X j))->DZ X' rs 0 (d0 σ)=r.act (DZ X rs 0 (d0 σ)):=by
 have hil:i<l.length:=(zS hx).1;have hf:=h.fits i x r hx hr;have Ag:=mJ h i O';generalize hT:DZ X rs 0 (d0 σ)=TX;have fw:∀(j:Nat)(r':DQ),rs[j]?=some r'->∃y,l[j]?=some y/\QF C y r' (σ j) (σ (j+1)):=λj r' hj=>by
  have eh:j<l.length:=by rw[<-h.len];exact(zS hj).1
  exact⟨l[j],zE eh,h.fits j _ _ (zE eh) hj⟩
 have Ae:∀t∈YL x,TX.1 t=j7 (σ i).tm t:=λt ht=>by
  have:=Rr (X:=X) (Y:=λj=>decide (j<i)) (t:=t) rs 0 (d0 σ) (d0 σ) rfl (λj r' hj hd=>by
   simp only[qb];by_cases o7:i=j
   ·subst o7;simp[mr]
   ·obtain⟨y,hy,fx⟩:=fw j r' hj
    rcases(VW h.ok hx hy o7).1 with ho|⟨h1,_⟩
    ·exact Ws hX mr fp o7 ho
    ·exact absurd ht (h1 t (by rw[<-fx.d];exact hd)))
  rw[hT,Ag]at this;exact this
 have Hj:∀t∈HB x.op,TX.1 t=j7 (σ i).tm t:=λt ht=>Ae t (by simp[YL,ht])
 have gv:∀s,(∀(j:Nat)(y:AI)(r':DQ),i≠j->l[j]?=some y->rs[j]?=some r'->J6 (Region.before ops) i j=true\/∀o,r'.own o s=o s)->TX.2 s=(σ i).own s:=λs hs=>by
  have:=Rq (X:=X) (Y:=λj=>decide (j<i)) (s:=s) rs 0 (d0 σ) (d0 σ) rfl (λj r' hj=>by
   simp only[qb];by_cases o7:i=j
   ·subst o7;left;simp[mr]
   ·obtain⟨y,hy,fx⟩:=fw j r' hj
    rcases hs j y r' o7 hy hj with ho|ho
    ·exact .inl (Ws hX mr fp o7 ho)
    ·exact .inr ho)
  rw[hT,Ag]at this;exact this
 have nu:∀(j:Nat)(y:AI)(r':DQ),l[j]?=some y->rs[j]?=some r'->MR y.op=false->∀o,r'.own o=o:=λj y r' hy hj hm o=>by
  simp only[MR,Bool.or_eq_false_iff]at hm;exact WM (h.fits j y r' hy hj) hm.1.1 (by simpa using hm.2) o
 have Ha:∀(j:Nat)(y:AI),i≠j->l[j]?=some y->GJ y.op=true->MR x.op=true->J6 (Region.before ops) i j=true\/YH y x=true:=λj y o7 hy ht km=>by
  rcases(VW h.ok hy hx (Ne.symm o7)).1 with ho|⟨_,h2,_⟩
  ·rw[Wq];exact .inl ho
  ·rw[ht,km]at h2
   simp only[He,false_or]at h2;exact .inr h2
 have hg:NU TX.1 x.guard=some r.g:=by
  rw[<-hf.g];cases Dg:x.guard with
  |none=>rfl
  |some gw=>
   obtain⟨g,w⟩:=gw;simp only[NU];rw[Ae g (by simp[YL,Dg])]
 have Ah:GJ x.op=true->∀s,OM x≠some s->TX.2 s=(σ i).own s:=λht s ye=>by
  refine gv s λj y r' o7 hy hj=>?_
  cases hm:MR y.op with
  |false=>exact .inr λo=>by rw[nu j y r' hy hj hm o]
  |true=>
   rcases(VW h.ok hx hy o7).1 with ho|⟨_,h2,_⟩
   ·exact .inl ho
   ·rw[ht,hm]at h2
    simp only[He,false_or]at h2;obtain⟨q,k1,k2,k3,_⟩:=gQ h2;exact .inr λo=>qV (h.fits j y r' hy hj) k2 (p:=s) (λe=>ye (by rw[e];exact k1)) o
 have vt:GJ x.op=true->OM x=none->TX.2=(σ i).own:=λht hn=>by
  funext s
  exact Ah ht s (by rw[hn];simp)
 have Gy:WN x.op=true->TX.2.s9 x.b9=(σ i).own.s9 x.b9:=λjx=>by
  refine Aky λs hs=>gv s λj y r' o7 hy hj=>?_
  have km:MR x.op=true:=by simp[MR,jx]
  cases ht:GJ y.op with
  |true=>
   refine .inl ((Ha j y o7 hy ht km).resolve_right λhk=>?_);obtain⟨_,_,_,_,k4⟩:=gQ hk;rw[jx]at k4;cases k4
  |false=>
   cases na:EJ y.op with
   |none=>exact .inr λo=>by rw[WM (h.fits j y r' hy hj) ht na o]
   |some q=>
    rcases(VW h.ok hx hy o7).1 with ho|⟨_,_,h3⟩
    ·exact .inl ho
    ·exact .inr λo=>qV (h.fits j y r' hy hj) na (p:=s) (λe=>hs (by rw[e];exact h3 jx q na)) o
 have oc:∀s,EJ x.op=some s->TX.2 s=(σ i).own s:=λs ub=>by
  have km:MR x.op=true:=by simp[MR,ub]
  exact gv s λj y r' o7 hy hj=>by
   cases ht:GJ y.op with
   |true=>
    rcases Ha j y o7 hy ht km with ho|hk
    ·exact .inl ho
    ·obtain⟨q,k1,k2,_,_⟩:=gQ hk
     obtain rfl:q=s:=ga (k2.symm.trans ub);rcases Xb (h.fits j y r' hy hj) k1 with g1|⟨o',g1⟩
     ·exact .inr λo=>by rw[g1]
     ·exact .inr λo=>by rw[g1];simp[Own.put]
   |false=>
    cases na:EJ y.op with
    |none=>exact .inr λo=>by rw[WM (h.fits j y r' hy hj) ht na o]
    |some q=>
     rcases(VW h.ok hx hy o7).2 with ho|sj
     ·exact .inl ho
     ·exact .inr λo=>qV (h.fits j y r' hy hj) na (sj s q ub na) o
 have Mp:r.g=true->e9 C x.b9 (DY TX.1) TX.2 x.op=some r.E:=λda=>by
  rw[Aih Hj,<-hf.E da];cases ht:GJ x.op with
  |true=>
   cases hk:OM x with
   |none=>rw[vt ht hk]
   |some s=>
    obtain⟨f,xs,k1,k2⟩:=Tz hk;rw[k1,k2];simp only[e9];rw[Agv (o':=(σ i).own) λq hq=>Ah ht q (by rw[hk];exactλe=>hq (ga e).symm)]
  |false=>exact Aik _ _ ht Gy oc
 have hval:(if r.g then r.E.valOf TX.2 else .j4 [])=r.v:=by
  rw[hf.v];cases Mx:r.g with
  |false=>rfl
  |true=>
   simp only[if_true];cases ub:EJ x.op with
   |none=>
    cases ht:GJ x.op with
    |true=>
     cases hk:OM x with
     |none=>rw[vt ht hk]
     |some s=>
      obtain⟨v,o',hv⟩:=xR hk (hf.E Mx);rw[hv];rfl
    |false=>
     obtain⟨v,hv⟩:=xT (hf.E Mx) ht ub;rw[hv];rfl
   |some s=>
    have sj:=oc s ub;rcases xS (hf.E Mx) ub with⟨b,v,hv|hv⟩|⟨x,v,hv|hv⟩<;>rw[hv]<;>simp only[B3.valOf,Own.j6,sj]
 refine⟨hg,Mp,hval,λX' wk=>?_⟩;rw[<-hT];refine Rp hr mr wk _ λj r' hj hlt Lu z=>?_
 obtain⟨y,hy,fx⟩:=fw j r' hj;have o7:i≠j:=O'
 have iz:¬J6 (Region.before ops) i j=true:=λho=>by
  have:=Wr hX Lu hlt ho
  rw[mr]at this;cases this
 obtain⟨Np,Nq⟩:=VW h.ok hx hy o7;obtain⟨wu,Ds⟩:=VW h.ok hy hx (Ne.symm o7);have hp:=Np.resolve_left iz;have hq:=wu.resolve_left (by rw[Wq];exact iz);unfold DQ.act;refine Prod.ext ?_ ?_
 ·funext t
  simp only[LD];by_cases h1:r'.d=some t<;>by_cases h2:r.d=some t
  ·exact absurd (by rw[hf.d]at h2;simp[YL,h2]) (hp.1 t (by rw[<-fx.d];exact h1))
  ·simp[h1,h2]
  ·simp[h1,h2]
  ·simp[h1,h2]
 ·show r'.own (r.own z.2)=r.own (r'.own z.2)
  cases km:MR x.op with
  |false=>rw[nu i x r hx hr km,nu i x r hx hr km]
  |true=>
   cases yg:MR y.op with
   |false=>rw[nu j y r' hy hj yg,nu j y r' hy hj yg]
   |true=>
    have Gk:∀{x y:AI}{r r':DQ}{s1 s2 s3 s4:St},QF C x r s1 s2->QF C y r' s3 s4->YH x y=true->∀o,r'.own (r.own o)=r.own (r'.own o):=λhf fx hk o=>by
     obtain⟨q,k1,k2,_,_⟩:=gQ hk;rcases Xb hf k1 with g1|⟨o',g1⟩
     ·rw[g1,g1]
     ·rcases iX fx k2 with g2|⟨F,g2⟩
      ·rw[g2,g2]
      ·rw[g1,g2,g2,g1]
       funext p
       simp only[Own.put];split<;>rfl
    rcases hp.2.1 with htx|h1|h1
    rotate_left
    ·rw[yg]at h1;cases h1
    ·exact Gk hf fx h1 _
    rcases hq.2.1 with hty|h1|h1
    rotate_left
    ·rw[km]at h1;cases h1
    ·exact(Gk fx hf h1 _).symm
    cases ub:EJ x.op with
    |none=>rw[WM hf htx ub,WM hf htx ub]
    |some s=>
     cases na:EJ y.op with
     |none=>rw[WM fx hty na,WM fx hty na]
     |some s'=>
      have sj:=(Nq.resolve_left iz) s s' ub na;rcases iX hf ub with h1|⟨b,h1⟩
      ·rw[h1,h1]
      ·rcases iX fx na with h2|⟨b',h2⟩
       ·rw[h2,h2]
       ·rw[h1,h2,h2,h1]
        funext q
        simp only[Own.put];by_cases Gx:q=s<;>by_cases Cf:q=s'
        ·exact absurd (Gx.symm.trans Cf) sj
        ·simp[Gx,sj]
        ·simp[Cf,Ne.symm sj]
        ·simp[Gx,Cf]
end
end
end Go.Eng
