/-
  Direct forms: what a network of FormOne computes (plain law).
-/
import Derived.Test.YtjelffbnkmbgaaaDoorB5
import Derived.Test.YtjelffbnkmbgaaaDoorB2
import Derived.Test.YtjelffbnkmbgaaaDoorB1
import Derived.Test.YtjelffbnkmbgaaaDoorB3
import Derived.Lib.ItoaLen
import Derived.ProofKit
import Derived.OpenShut
import Derived.ChangeOld
import Derived.WalkKit
import Derived.WideShapes
import Derived.ChangeArms
set_option linter.unusedSimpArgs false
set_option linter.unusedVariables false
set_option linter.unnecessarySimpa false
namespace Go.Eng
def dot:List Int→List Int→Int
 | u::us,v::vs=>u*v+dot us vs
 | _,_=>0
def win (n:Nat) (l:List Int):List Int:=(l++List.replicate n 0).take n
theorem win_len (n:Nat) (l:List Int):(win n l).length=n:=by simp [win]
theorem dot_nil_r (p:List Int):dot p []=0:=by cases p<;>rfl
theorem dot_zeros : ∀ (p:List Int) (n:Nat),dot p (List.replicate n 0)=0
 | [],n=>by cases n<;>rfl
 | u::us,0=>rfl
 | u::us,n+1=>by rw[List.replicate_succ,dot,dot_zeros us n];omega
theorem win_cons (n:Nat) (v:Int) (l:List Int):win (n+1) (v::l)=v::win n l:=by
 simp only[win,List.cons_append,List.take_succ_cons,List.cons.injEq,true_and];rw[List.replicate_succ',←List.append_assoc,List.take_append_of_le_length (by simp)]
theorem win_take (n:Nat) (v:Int) (l:List Int):win n (v::l)=(v::win n l).take n:=by
 cases n with
 | zero=>rfl
 | succ n =>
  rw[win_cons,List.take_succ_cons];congr 1;simp only[win,List.take_take];rw[Nat.min_eq_left (by omega),List.replicate_succ',←List.append_assoc];exact (List.take_append_of_le_length (l₁:=l++List.replicate n 0) (by simp)).symm
theorem dot_win : ∀ (p l:List Int) (n:Nat),p.length≤n→dot p (win n l)=dot p l
 | [],l,n,_=>by simp [dot]
 | u::us,[],n,h=>by
  rw[dot_nil_r,win,List.nil_append,List.take_of_length_le (by simp),dot_zeros]
 | u::us,v::l,0,h=>by simp at h
 | u::us,v::l,n+1,h=>by
  rw[win_cons,dot,dot,dot_win us l n (by simpa using h)]
def sumPI (vals:List Int):List (Int × Int)→Int
 | []=>0
 | t::ts=>t.2*vals.getD t.1.toNat 0+sumPI vals ts
theorem sumP_append (vals:List Int) : ∀ (a b:List (Int × Int)),sumPI vals (a++b)=sumPI vals a+sumPI vals b
 | [],b=>by simp [sumPI]
 | t::a,b=>by simp only[List.cons_append,sumPI,sumP_append vals a b];omega
theorem sumS_plain (vals:List Int) (hv : ∀ v∈vals,-8388608≤v∧v≤8388608) : ∀ (ts:List (Int × Int)) (acc:Int) (k:Nat),(∀ t∈ts,-16777216≤t.2∧t.2≤16777216)→k+ts.length≤1000 → -140737488355328*k≤acc∧acc≤140737488355328*k→sumS vals acc ts=acc+sumPI vals ts
 | [],acc,k,_,_,_=>by simp [sumS,sumPI]
 | t::ts,acc,k,ht,hk,ha=>by
  have h1:=ht t (by simp);have h2 : -8388608≤vals.getD t.1.toNat 0∧vals.getD t.1.toNat 0≤8388608:=by
   rw[List.getD_eq_getElem?_getD];cases h:vals[t.1.toNat]? with
   | none=>simp
   | some v=>exact hv v (List.mem_of_getElem? h)
  have h3 : -140737488355328≤t.2*vals.getD t.1.toNat 0∧t.2*vals.getD t.1.toNat 0≤140737488355328:=by
   generalize vals.getD t.1.toNat 0=v at *;obtain ⟨a1,a2⟩:=h1;obtain ⟨b1,b2⟩:=h2;have:=Int.natAbs_mul t.2 v
   have e1:t.2.natAbs≤16777216:=by omega
   have e2:v.natAbs≤8388608:=by omega
   have e3:=Nat.mul_le_mul e1 e2;omega
  have hl:k+1+ts.length≤1000:=by simp at hk;omega
  simp only[sumS,sumPI];rw[IntWalk.i64_in (t.2*vals.getD t.1.toNat 0) (by omega),IntWalk.i64_in _ (by omega)];rw[sumS_plain vals hv ts _ (k+1) (fun t h=>ht t (List.mem_cons_of_mem _ h)) hl (by omega)];omega
theorem rowD_cons (v:Int) (l:List Int) (sg fr:Int):rowD (v::l) sg fr=(fr,sg*v)::rowD l sg (fr+1):=by
 simp only[rowD,List.length_cons,List.range_succ_eq_map,List.map_cons,List.map_map];congr 1
 ·simp
 ·apply List.map_congr_left
  intro i _;simp only[Function.comp,List.getD_cons_succ,Prod.mk.injEq,and_true];omega
theorem sum_row (vals:List Int) (sg:Int) : ∀ (l:List Int) (fr:Nat),fr+l.length≤vals.length→sumPI vals (rowD l sg fr)=sg*dot l (vals.drop fr)
 | [],fr,_=>by simp [rowD,sumPI,dot]
 | v::l,fr,h=>by
  rw[rowD_cons,sumPI];have h1:fr<vals.length:=by simp at h;omega
  have ih:=sum_row vals sg l (fr+1) (by simp at h;omega);rw[Int.natCast_succ]at ih;rw[ih,List.drop_eq_getElem_cons h1,dot,Int.toNat_natCast,List.getD_eq_getElem?_getD,List.getElem?_eq_getElem h1,Option.getD_some,Int.mul_add,Int.mul_assoc]
theorem FT_le {w:Wd} {v:Int} (h:FT w v) : -8388608≤v∧v≤8388608:=by
 obtain ⟨hw,e1,e2⟩:=h;obtain ⟨h1,h2,h3,h4⟩:=low_high hw;omega
theorem mem_rowD {l:List Int} {sg fr:Int} {t:Int × Int} (h:t∈rowD l sg fr) : ∃ i:Nat,∃ v∈l,i<l.length∧t=(fr+i,sg*v):=by
 simp only[rowD,List.mem_map,List.mem_range]at h;obtain ⟨i,hi,rfl⟩:=h;exact ⟨i,l[i],List.getElem_mem hi,hi,by simp [List.getD_eq_getElem?_getD,List.getElem?_eq_getElem hi]⟩
theorem mem_delayS {n:Nat} {a b k:Int} (h:k∈delayS n a b):k=b ∨ ∃ i:Nat,1≤i∧i<n∧k=a+i-1:=by
 simp only[delayS,List.mem_map,List.mem_range]at h;obtain ⟨i,hi,rfl⟩:=h;by_cases h0:i=0
 ·exact Or.inl (by rw[if_pos h0])
 ·exact Or.inr ⟨i,by omega,hi,by rw[if_neg h0]⟩
variable {b a:List Int} {d c:Wd}
theorem form_net (hd:WV d) (hc:WV c) (l1:1≤b.length∧b.length≤49) (l2:a.length≤8) (hb : ∀ v∈b,FT c v) (ha : ∀ v∈a,FT c v∧FT c (-v)):netB (formOneS b a d c)=true:=by
 rw[netB_iff];refine ⟨hd,hc,⟨by simp only[formOneS];omega,by simp only[formOneS];omega,by simp [formOneS],by simp [formOneS,delayS]⟩,?_,?_,by simp only[formOneS];omega,by simp only[formOneS,List.length_cons,List.length_nil];omega⟩
 ·simp only[formOneS,nodesB,Bool.and_true,Bool.and_eq_true,decide_eq_true_eq,List.all_eq_true]
  refine ⟨by simp [rowD_len];omega,fun t ht => ?_⟩;simp only[termB,decide_eq_true_eq];rcases List.mem_append.1 ht with h|h
  ·obtain ⟨i,v,hv,hi,rfl⟩:=mem_rowD h
   exact ⟨by simp only;omega,by simp only;omega,Or.inr (by simpa using hb v hv)⟩
  ·obtain ⟨i,v,hv,hi,rfl⟩:=mem_rowD h
   exact ⟨by simp only;omega,by simp only;omega,Or.inr (by simpa using (ha v hv).2)⟩
 ·simp only[formOneS,nextB,List.all_eq_true,decide_eq_true_eq,List.length_cons,List.length_nil]
  intro k hk;rcases List.mem_append.1 hk with h|h
  all_goals (rcases mem_delayS h with rfl|⟨i,h1,h2,rfl⟩<;>refine decide_eq_true ?_<;>omega)
theorem dot_append : ∀ (p u w:List Int),p.length≤u.length→dot p (u++w)=dot p u
 | [],u,w,_=>by simp [dot]
 | e::p,[],w,h=>by simp at h
 | e::p,v::u,w,h=>by rw[List.cons_append,dot,dot,dot_append p u w (by simpa using h)]
def outF (b a:List Int) (d c:Wd) (rx ry:List Int):Int:=redS d (shiftS (dot b rx-dot a ry) c.f d.r)
theorem delay_map (vals:List Int) (n f:Nat) (src:Int) (h:f+n≤vals.length+1):((delayS n f src).map fun k:Int=>vals.getD k.toNat 0)=(vals.getD src.toNat 0::vals.drop f).take n:=by
 apply List.ext_getElem?;intro i;by_cases hi:i<n
 ·rw[List.getElem?_map,delayS_at hi,Option.map_some,List.getElem?_take,if_pos hi]
  cases i with
  | zero=>simp
  | succ i =>
   rw[if_neg (by omega),List.getElem?_cons_succ,List.getElem?_drop];have e:((f:Int)+((i+1:Nat):Int)-1).toNat=f+i:=by omega
   rw[e,List.getD_eq_getElem?_getD,List.getElem?_eq_getElem (by omega)];rfl
 ·rw[List.getElem?_eq_none (by simp [delayS];omega),List.getElem?_eq_none (by simp;omega)]
theorem form_comp (hd:WV d) (hc:WV c) (l1:1≤b.length∧b.length≤49) (l2:a.length≤8) (hb : ∀ v∈b,FT c v) (ha : ∀ v∈a,FT c v∧FT c (-v)) (x:Int) (rx ry:List Int)
  (hw : ∀ v∈x::(win (b.length-1) rx++win a.length ry),-8388608≤v∧v≤8388608) :
  sumS (x::(win (b.length-1) rx++win a.length ry)) 0 (rowD b 1 0++rowD a (-1) b.length)=dot b (x::rx)-dot a ry:=by
 have e:x::win (b.length-1) rx=win b.length (x::rx):=by
  rw[←win_cons,show b.length-1+1=b.length by omega]
 rw[sumS_plain _ hw _ 0 0 ?_ (by simp [rowD_len];omega) (by omega)]
 ·rw[sumP_append,←List.cons_append,e]
  have h1:=sum_row (win b.length (x::rx)++win a.length ry) 1 b 0 (by simp [win_len]);have h2:=sum_row (win b.length (x::rx)++win a.length ry) (-1) a b.length (by simp [win_len]);rw[show ((0:Nat):Int)=0 from rfl]at h1;rw[h1,h2,List.drop_zero,dot_append _ _ _ (by simp [win_len]),dot_win _ _ _ (Nat.le_refl _),List.drop_left' (win_len _ _),dot_win _ _ _ (Nat.le_refl _)];omega
 ·intro t ht
  rcases List.mem_append.1 ht with h|h
  ·obtain ⟨i,v,hv,hi,rfl⟩:=mem_rowD h
   have:=FT_le (hb v hv)
   simp only;omega
  ·obtain ⟨i,v,hv,hi,rfl⟩:=mem_rowD h
   have:=FT_le (ha v hv).1
   simp only;omega
theorem FT_zero (hd:WV d):FT d 0:=by
 obtain ⟨h1,h2,h3,h4⟩:=low_high hd;exact ⟨hd,by omega,by omega⟩
theorem win_words (hd:WV d) {l:List Int} (n:Nat) (h : ∀ v∈l,FT d v) : ∀ v∈win n l,FT d v:=by
 intro v hv;rcases List.mem_append.1 (List.mem_of_mem_take hv) with h1|h1
 ·exact h v h1
 ·rw[(List.mem_replicate.1 h1).2];exact FT_zero hd
def stF (b a rx ry:List Int):List Int:=win (b.length-1) rx++win a.length ry
theorem form_step (hd:WV d) (hc:WV c) (l1:1≤b.length∧b.length≤49) (l2:a.length≤8) (hb : ∀ v∈b,FT c v) (ha : ∀ v∈a,FT c v∧FT c (-v)) (x:Int) (rx ry:List Int) (hx:FT d x) (hrx : ∀ v∈rx,FT d v) (hry : ∀ v∈ry,FT d v) :
  (compS (formOneS b a d c) (x::stF b a rx ry) false (formOneS b a d c).nodes).1.getD (formOneS b a d c).out.toNat 0=outF b a d c (x::rx) ry ∧
  follS (formOneS b a d c) (compS (formOneS b a d c) (x::stF b a rx ry) false (formOneS b a d c).nodes).1=stF b a (x::rx) (outF b a d c (x::rx) ry::ry) ∧
  (compS (formOneS b a d c) (x::stF b a rx ry) false (formOneS b a d c).nodes).2 = !decide (FT d (shiftS (dot b (x::rx)-dot a ry) c.f d.r)):=by
 have hw : ∀ v∈x::(win (b.length-1) rx++win a.length ry),-8388608≤v∧v≤8388608:=by
  intro v hv;rcases List.mem_cons.1 hv with rfl|hv
  ·exact FT_le hx
  ·rcases List.mem_append.1 hv with h|h
   ·exact FT_le (win_words hd _ hrx v h)
   ·exact FT_le (win_words hd _ hry v h)
 have hs:=form_comp hd hc l1 l2 hb ha x rx ry hw;have hn:nodeS (formOneS b a d c) (x::stF b a rx ry) ⟨false,rowD b 1 0++rowD a (-1) b.length⟩=shiftS (dot b (x::rx)-dot a ry) c.f d.r:=by
  show shiftS (sumS _ 0 _) c.f d.r=_;rw[stF,hs]
 have hcmp:compS (formOneS b a d c) (x::stF b a rx ry) false (formOneS b a d c).nodes=(x::stF b a rx ry++[outF b a d c (x::rx) ry],!decide (FT d (shiftS (dot b (x::rx)-dot a ry) c.f d.r))):=by
  show compS _ _ _ [_]=_;rw[compS,compS,hn,Bool.false_or];rfl
 have hlen:(x::stF b a rx ry).length=b.length+a.length:=by simp [stF,win_len];omega
 have hout:(x::stF b a rx ry++[outF b a d c (x::rx) ry]).getD (b.length+a.length) 0=outF b a d c (x::rx) ry:=by
  rw[List.getD_eq_getElem?_getD,List.getElem?_append_right (by omega),hlen,Nat.sub_self];rfl
 rw[hcmp];refine ⟨?_,?_,rfl⟩
 ·show List.getD _ (((b.length+a.length:Nat):Int)).toNat 0=_
  rw[Int.toNat_natCast];exact hout
 ·have hl2:(x::stF b a rx ry++[outF b a d c (x::rx) ry]).length=b.length+a.length+1:=by rw[List.length_append,hlen];rfl
  show List.map (fun k:Int=>List.getD _ k.toNat 0) (delayS (b.length-1) (1:Nat) 0++delayS a.length b.length ((b.length+a.length:Nat):Int))=_;rw[List.map_append,delay_map _ _ _ _ (by rw[hl2];omega),delay_map _ _ _ _ (by rw[hl2];omega),Int.toNat_natCast,hout];have e:x::win (b.length-1) rx=win b.length (x::rx):=by
   rw[←win_cons,show b.length-1+1=b.length by omega]
  have hd2:(x::stF b a rx ry++[outF b a d c (x::rx) ry]).drop b.length=win a.length ry++[outF b a d c (x::rx) ry]:=by
   rw[stF,←List.cons_append,e,List.append_assoc,List.drop_left' (win_len _ _)]
  rw[hd2,show stF b a (x::rx) (outF b a d c (x::rx) ry::ry)=win (b.length-1) (x::rx)++win a.length (outF b a d c (x::rx) ry::ry) from rfl,win_take,win_take];congr 1
  ·simp only[List.drop_one,List.cons_append,List.tail_cons,Int.toNat_zero,List.getD_cons_zero]
   rw[stF,List.append_assoc,←List.cons_append,List.take_append_of_le_length (by simp [win_len])]
  ·rw[←List.cons_append,List.take_append_of_le_length (by simp [win_len])]
end Go.Eng
namespace Go.Eng
theorem red_id {w:Wd} {v:Int} (h:FT w v):redS w v=v:=by
 obtain ⟨hw,h1,h2⟩:=h;obtain ⟨e1,e2,e3,e4⟩:=low_high hw;have hw':=hw;unfold WV at hw';unfold redS;rw[if_pos hw];by_cases ho:w.o=2
 ·rw[if_pos ho]
  have hp:=pw_succ (n:=w.b) (by omega);unfold wrapS;rw[if_pos (by omega)];by_cases hn:0≤v
  ·rw[Int.emod_eq_of_lt hn (by omega),if_neg (by omega)]
  ·have:v%pw w.b=v+pw w.b:=by
    rw[←Int.add_emod_right];exact Int.emod_eq_of_lt (by omega) (by omega)
   rw[this,if_pos (by omega)];omega
 ·rw[if_neg ho]
  unfold satS;omega
variable {d c:Wd} {p:List Int}
end Go.Eng

namespace Go.Eng
variable {L:Lib}
end Go.Eng

namespace Go.Eng
variable {L:Lib}
def MSub (M:Mem):Mem→Prop
 | []=>True
 | (k,s,c)::r=>mget M k=some (s,c)∧MSub M r
theorem MSub.get {M:Mem} : ∀ {M0:Mem},MSub M M0 → ∀ k s c,mget M0 k=some (s,c)→mget M k=some (s,c)
 | [],_,_,_,_,e=>by cases e
 | (i,s0,c0)::r,h,k,s,c,e=>by
  simp only[mget]at e;cases hb:Nat.beq k i<;>simp only[hb,cond_true,cond_false]at e
  ·exact MSub.get h.2 k s c e
  ·rw[beq_iff.1 hb,←e];exact h.1
theorem Sat.sub {σ:Stp} {own:Own} {M M0:Mem} (h:Sat σ own M) (hm:MSub M M0):Sat σ own M0:=by
 have hr : ∀ k t c,mref M0 k t=some c→mref M k t=some c:=fun k t c e=>by
  obtain ⟨s,c0,g,_⟩:=mref_some e;have g2:=hm.get k s c0 g;unfold mref at e ⊢;rw[g]at e;rw[g2];exact e
 exact ⟨fun k s c e=>h.site k s c (hm.get k s c e),fun k t c e=>h.blk k t c (hr k t c e),fun k t c e=>h.old k t c (hr k t c e),fun k t k' t' c c' e e'=>h.inj k t k' t' c c' (hr k t c e) (hr k' t' c' e'),fun k t c e=>h.low k t c (hr k t c e)⟩
theorem CalP.out {f:Nat} {vs:List AV} {tm:Tm} {M:Mem} {K:AV→Mem→Prop} (h:CalP L f vs tm M fun r M' => ∃ M1,MSub M' M1∧K r M1):CalP L f vs tm M K:=by
 intro σ own hs;obtain ⟨r,own',σ',M',h1,h2,h3,M1,h4,h5⟩:=h σ own hs;exact ⟨r,own',σ',M1,h1,h2.sub h4,h3,h5⟩
def onl1 (ks:List Nat):AV→Bool
 | .row k t _ _ _=>Nat.beq t 0&&memN k ks
 | .ptr k t _ _=>Nat.beq t 0&&memN k ks
 | .mp k t=>Nat.beq t 0&&memN k ks
 | _=>true
def onlL (ks:List Nat):List AV→Bool
 | []=>true
 | v::r=>onl1 ks v&&onlL ks r
def onl2 (ks:List Nat):AV→Bool
 | .agg cs=>onlL ks cs
 | .fn _ _ _ cs=>onlL ks cs
 | v=>onl1 ks v
def onl2L (ks:List Nat):List AV→Bool
 | []=>true
 | v::r=>onl2 ks v&&onl2L ks r
def onl3 (ks:List Nat):AV→Bool
 | .tup vs=>onl2L ks vs
 | v=>onl2 ks v
def onlT (ks:List Nat):Tm→Bool
 | []=>true
 | (_,v)::r=>onl3 ks v&&onlT ks r
theorem memN_iff {k:Nat} : ∀ {l:List Nat},memN k l=true→k∈l
 | [],h=>by cases h
 | j::r,h=>by
  simp only[memN]at h;cases hb:Nat.beq k j<;>simp only[hb,cond_true,cond_false]at h
  ·exact List.mem_cons_of_mem _ (memN_iff h)
  ·rw[beq_iff.1 hb];exact List.mem_cons_self
section
variable {ks:List Nat} {σ σ':Stp} (hs : ∀ k∈ks,σ' k 0=σ k 0)
include hs
theorem st1_onl {v:AV} (h:onl1 ks v=true):st1 σ' v=st1 σ v:=by
 cases v<;>try rfl
 all_goals
  simp only[onl1,Bool.and_eq_true]at h;have h1:=beq_iff.1 h.1;have h2:=hs _ (memN_iff h.2);subst h1;simp only[st1,h2]
theorem stL_onl : ∀ {l:List AV},onlL ks l=true→l.map (st1 σ')=l.map (st1 σ)
 | [],_=>rfl
 | v::r,h=>by
  simp only[onlL,Bool.and_eq_true]at h;rw[List.map_cons,List.map_cons,st1_onl hs h.1,stL_onl h.2]
theorem st2_onl {v:AV} (h:onl2 ks v=true):st2 σ' v=st2 σ v:=by
 cases v with
 | agg cs=>simp only[st2];rw[stL_onl hs h]
 | fn p f g cs=>simp only[st2];rw[stL_onl hs h]
 | row k t z o n=>exact st1_onl hs (v := .row k t z o n) h
 | ptr k t i j=>exact st1_onl hs (v := .ptr k t i j) h
 | mp k t=>exact st1_onl hs (v := .mp k t) h
 | _=>rfl
theorem st2L_onl : ∀ {l:List AV},onl2L ks l=true→l.map (st2 σ')=l.map (st2 σ)
 | [],_=>rfl
 | v::r,h=>by
  simp only[onl2L,Bool.and_eq_true]at h;rw[List.map_cons,List.map_cons,st2_onl hs h.1,st2L_onl h.2]
theorem st3_onl {v:AV} (h:onl3 ks v=true):st3 σ' v=st3 σ v:=by
 cases v with
 | tup vs=>simp only[st3];rw[st2L_onl hs h]
 | agg cs=>exact st2_onl hs (v := .agg cs) h
 | fn p f g cs=>exact st2_onl hs (v := .fn p f g cs) h
 | row k t z o n=>exact st1_onl hs (v := .row k t z o n) h
 | ptr k t i j=>exact st1_onl hs (v := .ptr k t i j) h
 | mp k t=>exact st1_onl hs (v := .mp k t) h
 | _=>rfl
end
theorem onlT_get {ks:List Nat} : ∀ {tm:Tm},onlT ks tm=true → ∀ j,onl3 ks (tg tm j)=true
 | [],_,_=>rfl
 | (i,v)::r,h,j=>by
  simp only[onlT,Bool.and_eq_true]at h;simp only[tg];cases hb:Nat.beq j i<;>simp only[cond_true,cond_false]
  ·exact onlT_get h.2 j
  ·exact h.1
def tmF:Nat→List Nat→Tm
 | _,[]=>[]
 | i,k::r=>(i,.ptr k 0 0 0)::tmF (i+1) r
abbrev tmK (ks:List Nat):Tm:=tmF 0 ks
theorem tmF_get : ∀ {ks:List Nat} {i k:Nat},k∈ks → ∃ j,i≤j∧tg (tmF i ks) j = .ptr k 0 0 0
 | [],_,_,h=>by cases h
 | j::r,i,k,h=>by
  rcases List.mem_cons.1 h with rfl|e
  ·exact ⟨i,Nat.le_refl _,by simp [tmF,tg]⟩
  ·obtain ⟨a,h1,h2⟩:=tmF_get (i:=i+1) e
   refine ⟨a,by omega,?_⟩;simp only[tmF,tg];rw[beq_false.2 (show a≠i by omega),cond_false];exact h2
theorem CalP.sub {f:Nat} {vs:List AV} {tm:Tm} {M:Mem} {K:AV→Mem→Prop} (ks:List Nat) (M0:Mem) (hm:MSub M M0) (ht:onlT ks tm=true) (h:CalP L f vs (tmK ks) M0 K):CalP L f vs tm M K:=by
 intro σ own hs;obtain ⟨r,own',σ',M',h1,h2,h3,h4⟩:=h σ own (hs.sub hm);refine ⟨r,own',σ',M',h1,h2,fun j => ?_,h4⟩;refine st3_onl (fun k hk => ?_) (onlT_get ht j);obtain ⟨j,_,hj⟩:=tmF_get (i:=0) hk;have:=h3 j
 rw[show tg (tmK ks) j=_ from hj]at this;simp only[st3,st2,st1,AV.ptr.injEq]at this;exact Prod.ext this.1 this.2.1
end Go.Eng

namespace Go.Eng
open F
set_option maxHeartbeats 4000000
variable {L:Lib}
def fnx (n:Nt) (x:Int) (s:List Int):List Int:=follS n (compS n (x::s) false n.nodes).1
def gnx (n:Nt) (x:Int) (s:List Int):Int:=(compS n (x::s) false n.nodes).1.getD n.out.toNat 0
structure OkW (n:Nt) (s:List Int):Prop where
 len:(s.length:Int)=n.s
 wd:wordsB n.d s=true
theorem fnx_len (n:Nt) (x:Int) (s:List Int):(fnx n x s).length=n.next.length:=by simp [fnx,follS]
theorem OkW.step {n:Nt} {x:Int} {s:List Int} (hv:netB n=true) (hx:FT n.d x) (h:OkW n s):OkW n (fnx n x s):=by
 obtain ⟨g1,g2,g3,g4,g5,g6⟩:=(netB_iff n).1 hv;refine ⟨by rw[fnx_len];omega,foll_words n ?_ g5 ?_⟩
 ·refine comp_words n g1 _ _ _ ?_
  simp only[wordsB,List.all_cons,Bool.and_eq_true,decide_eq_true_eq];exact ⟨hx,h.wd⟩
 ·rw[comp_len,List.length_cons]
  have:=h.len
  omega
theorem OkW.it {n:Nt} {x:Int} (hv:netB n=true) (hx:FT n.d x) : ∀ (k:Nat) {s:List Int},OkW n s→OkW n (itS (fnx n x) k s)
 | 0,_,h=>h
 | k+1,_,h=>OkW.it hv hx k (h.step hv hx)
theorem OkW.ft {n:Nt} {s:List Int} (h:OkW n s) : ∀ v∈s,FT n.d v:=fun v hv=>of_decide_eq_true (List.all_eq_true.1 h.wd v hv)
theorem ev_StepN (I:FixedLib L) (J:NetLib L) {n:Nt} {x:Int} {s:List Int} (hv:netB n=true) (hx:FT n.d x) (h:OkW n s) (q:Bool):Ev L 26 [.agg (encN n),.sl q (s.map encInt),.int .i64 x] (.tup [.sl false ((fnx n x s).map encInt),.int .i64 (gnx n x s),.bool (compS n (x::s) false n.nodes).2,.int .i64 0]):=by
 have:=ev_network_Step n I J s q x (by have:=h.len;obtain ⟨_,_,g3,_⟩:=(netB_iff n).1 hv;omega)
 rwa [step_good n hv h.len h.wd hx]at this
theorem OkW.box {n:Nt} {box s:List Int} (hl:(box.length:Int)=n.s) (hw:wordsB n.d box=true) (h:inB box s):OkW n s:=by
 have hsl:=inB_len h;refine ⟨by omega,List.all_eq_true.2 fun v hv => ?_⟩;obtain ⟨i,hi⟩:=List.getElem?_of_mem hv;have hil:=(List.getElem?_eq_some_iff.1 hi).1;obtain ⟨b,hb⟩ : ∃ b,box[i]? = some b:=⟨_,List.getElem?_eq_getElem (by omega)⟩;have h1:=inB_get h hi hb;have h2:FT n.d b:=of_decide_eq_true (List.all_eq_true.1 hw b (List.mem_of_getElem? hb));obtain ⟨w1,w2,w3⟩:=h2;obtain ⟨l1,l2,l3,l4⟩:=low_high w1;exact decide_eq_true ⟨w1,by omega,by omega⟩
structure OkS (s:List Int):Prop where
 len:s.length≤64
 rng : ∀ v∈s,InI v
theorem OkW.okS {n:Nt} {s:List Int} (hv:netB n=true) (h:OkW n s):OkS s:=by
 obtain ⟨_,_,g3,_⟩:=(netB_iff n).1 hv;refine ⟨by have:=h.len;omega,fun v hv' => ?_⟩;have:=ft_small (h.ft v hv')
 exact ⟨by omega,by omega⟩
structure KeyOK (L:Lib) (kB:List Int→ByteArray):Prop where
 no:L 432=none
 ext : ∀ (q:Bool) (s:List Int),OkS s→L.ext 432 [.sl q (s.map encInt)]=some (.con (.string (kB s)))
 inj : ∀ s t,OkS s→OkS t→kB s=kB t→s=t
 size : ∀ s,OkS s→(kB s).size≤100000
variable {kB:List Int→ByteArray}
theorem ev_key (Y:KeyOK L kB) {s:List Int} (h:OkS s) (q:Bool):Ev L 432 [.sl q (s.map encInt)] (.con (.string (kB s))):=Ev.told Y.no (Y.ext q s h) (by simp [Clean])
variable (kB) in
abbrev eSeen (seen:List (List Int × Int)):List (List AV):=seen.map fun p=>[.con (.string (kB p.1)),.int .i64 p.2]
theorem str_key (Y:KeyOK L kB) {s t:List Int} (hs:OkS s) (ht:OkS t):strEq (kB s) (kB t)=decide (s=t):=by
 by_cases h:s=t
 ·subst h
  rw[decide_eq_true rfl];exact strEq_iff.2 rfl
 ·rw[decide_eq_false h]
  exact strEq_false.2 fun e=>h (Y.inj s t hs ht e)
theorem mget_seen (Y:KeyOK L kB) {s:List Int} (hs:OkS s) : ∀ {seen:List (List Int × Int)},(∀ t∈keyS seen,OkS t)→mgetA (eSeen kB seen) (kB s)=lkS seen s
 | [],_=>rfl
 | p::r,h=>by
  simp only[List.map_cons,mgetA,lkS];rw[str_key Y (h p.1 List.mem_cons_self) hs,mget_seen Y hs fun t ht=>h t (List.mem_cons_of_mem _ ht)];by_cases e:p.1=s
  ·rw[decide_eq_true e,if_pos e,cond_true]
  ·rw[decide_eq_false e,if_neg e,cond_false]
theorem MpG.seen (Y:KeyOK L kB) {s:List Int} (hs:OkS s) {seen:List (List Int × Int)} (hk : ∀ t∈keyS seen,OkS t) (hl:seen.length≤1000000) {K:Int→Bool→Prop} (h:K ((lkS seen s).getD 0) (lkS seen s).isSome):MpG (eSeen kB seen) (kB s) K:=by
 refine ⟨⟨by have:=Y.size s hs;omega,by rw[List.length_map];omega⟩,?_⟩;rw[mget_seen Y hs hk];exact h
theorem MpS.seen (Y:KeyOK L kB) {s:List Int} (hs:OkS s) {seen:List (List Int × Int)} (hk : ∀ t∈keyS seen,OkS t) (hl:seen.length≤1000000) (hn:s ∉ keyS seen) {w:Int} (hw:InI w) {K:List (List AV)→Prop} (h:K (eSeen kB ((s,w)::seen))):MpS (eSeen kB seen) (kB s) w K:=by
 refine ⟨⟨by have:=Y.size s hs;omega,by rw[List.length_map];omega,hw.1,hw.2⟩,?_⟩;have:mputA (eSeen kB seen) (kB s) w=eSeen kB ((s,w)::seen):=by
  show _::_=_::_;congr 1;rw[List.filter_eq_self];intro c hc;obtain ⟨p,hp,rfl⟩:=List.mem_map.1 hc;have hpk:p.1∈keyS seen:=List.mem_map.2 ⟨p,hp,rfl⟩;simp only[mkey];rw[str_key Y (hk _ hpk) hs,decide_eq_false fun (e:p.1=s)=>hn (e ▸ hpk)];rfl
 rw[this];exact h
theorem minC_cyc {f:List Int→List Int} {g:List Int→Int} {B:List Int→Prop} {p:Nat} {u:List Int} (hp:0<p) (hu:itS f p u=u) (hn:(orbS f p u).Nodup) (hB : ∀ t∈orbS f p u,B t):IsCyc f g B (minC (orbS f p u,(orbS f p u).map g)) (itS f (minL (orbS f p u) p) u) p:=by
 have hj:minL (orbS f p u) p<p:=by have:=minL_lt (orbS f p u) p;omega
 unfold minC;rw[orb_len];refine IsCyc.rot hp hu hn hj (fun t ht => ?_) hB;obtain ⟨m,hm,rfl⟩:=orb_mem.1 ht;have:=minL_low (orbS f p u) p m hm
 rwa [getL_of (orb_get hm),getL_of (orb_get hj)]at this
theorem minC_mem {f:List Int→List Int} {g:List Int→Int} (p:Nat) (u t:List Int):t∈(minC (orbS f p u,(orbS f p u).map g)).1 ↔ ∃ j,j<p∧t=itS f j u:=(rot_perm _ _).mem_iff.trans orb_mem
attribute [local irreducible] AKM CmpP Req OpP UnP RdP LdR StR MkR AppR AppN CpyR RowP SnR Bds SlS CallP CalP FinP pw LdM GetM SetM PutM MkM AppM SnM FlP CallR MpG MpS ApfP SrtP
abbrev eExp (n:Nt) (x:Int) (q:Bool) (box:List Int) (w:Int):List AV:=encN n++[.int .i64 x,.sl q (box.map encInt),.mp 960028 0,.int .i64 w]
abbrev memW (n:Nt) (x:Int) (q:Bool) (box:List Int) (st:List Int) (es:List (List AV)) (S:List (List AV)) (w:Int):Mem:=[(3,3,.bx (encN n)),(960028,960028,.rw 2 S),(9,9,.bx (eExp n x q box w)),(32,32,.rw 1 (st.map encInt)),(13,13,.rw 2 es)]
def eRes:Option (List (List Int) × List Int)→List AV
 | some c=>eCy c
 | none=>[.nil,.nil]
structure OkX (n:Nt) (x:Int) (box:List Int):Prop where
 net:netB n=true
 inp:FT n.d x
 len:(box.length:Int)=n.s
 wd:wordsB n.d box=true
 nn : ∀ b∈box,0≤b
 tot:totS box≤4096
theorem cal_walk (I:FixedLib L) (J:NetLib L) (N:LimGLib L) (Y:KeyOK L kB) {n:Nt} {x:Int} {box:List Int} (hX:OkX n x box) (q:Bool) (st:List Int) (es:List (List AV)) {seen:List (List Int × Int)} {w:Nat} {s:List Int} (hs:inB box s) (hb : ∀ t∈keyS seen,inB box t) (hn : ∀ p∈seen,p.2≤w) (hsl:(keyS seen).Nodup) (hw:w≤4096)
  (K:AV→Mem→Prop) (hK : ∀ k r,WalkK (fnx n x) box seen s k→WalkR (fnx n x) (gnx n x) box seen s k r→K (.tup [.agg (eRes r),.bool r.isSome,.int .i64 0]) (memW n x q box st es (eSeen kB (seenS (fnx n x) seen s (w+1) k)) (w+1))) :
  CalP L 431 [.ptr 9 0 0 0,.sl false (s.map encInt)] (tmK [3,960028,9,32,13,51]) (memW n x q box st es (eSeen kB seen) w) K:=by
 have hnet:=hX.net;obtain ⟨g1,g2,g3,g4,g5,g6⟩:=(netB_iff n).1 hnet;have hbl:=hX.len;have hok : ∀ t,inB box t→OkW n t:=fun t h=>OkW.box hX.len hX.wd h
 have hbw : ∀ b∈box,0≤b∧b≤9223372036854775807:=fun b h=>⟨hX.nn b h,by have:=(ft_small (of_decide_eq_true (List.all_eq_true.1 hX.wd b h))).2;omega⟩
 have hW:=fun k=>OkW.it hnet hX.inp k (hok s hs)
 refine CalP.out ?_;refine CalP.walkC 1000 N.limitcycle_explorer_walk rfl rfl ?_;(repeat' ((first|(apply OpP.add;omega)|apply AKM.x)<;>conv=>whnf))
 refine AKM.lq1 (fun k=>4097-k) (fun (k:Nat)=>WalkK (fnx n x) box seen s k) (fun k=>[(1,.sl false ((itS (fnx n x) k s).map encInt)),(7,.row 431007 0 1 0 k),(8,.row 431008 0 1 0 k)]) (fun k=>[(431007,431007,.rw 1 ((orbS (fnx n x) k s).map (encSt false))),(431008,431008,.rw 1 (((orbS (fnx n x) k s).map (gnx n x)).map encInt)),(960028,960028,.rw 2 (eSeen kB (seenS (fnx n x) seen s (w+1) k)))]) 0 ⟨List.nodup_nil,by simp [orbS],by simp [orbS]⟩ ?_;intro k hk ih;have hkl:k≤4096:=by
  have:=nodup_tot hk.nd hk.bx
  rw[orb_len]at this;have:=hX.tot
  omega
 have hwk:=hW k;have hkey : ∀ t∈keyS (seenS (fnx n x) seen s (w+1) k),OkS t:=fun t ht=>(hok t (by rcases (seen_key _).1 ht with h|h;exact hk.bx t h;exact hb t h)).okS hnet
 have hsz:(seenS (fnx n x) seen s (w+1) k).length≤8192:=by
  have h1:=nodup_tot hsl hb;have h2:=hX.tot;simp only[seenS,List.length_append,List.length_reverse,List.length_map,orb_len];simp only[keyS,List.length_map]at h1;omega
 have hol:=orb_len (f:=fnx n x) k s;have hsn:=orb_snoc (f:=fnx n x) k s;have hnx:=it_succ (f:=fnx n x) k s;have hss:=seen_succ (fnx n x) seen s (w+1) k;generalize hT:itS (fnx n x) k s=T at *;have hTl:T.length=box.length:=by have:=hwk.len;omega
 have hTs:=hwk.okS hnet;have hTo:(((orbS (fnx n x) k s).map (gnx n x)).map encInt).length=k:=by simp [hol]
 (repeat' ((first|apply AKM.x|refine CallP.B (ev_within N T box _ q hTl hbw (by omega)) (fun hf => ?_) (fun hf => ?_)|refine CallP.go (ev_key Y hTs _) ?_)<;>conv=>whnf))
 ·refine MpG.seen Y hTs hkey (by omega) ?_
  cases hlk:lkS (seenS (fnx n x) seen s (w+1) k) T with
  | none =>
   have hnk:=lk_none.1 hlk;(conv=>whnf)
   skip
   refine MpS.seen Y hTs hkey (by omega) hnk ⟨by omega,by omega⟩ ?_;(conv=>whnf)
   (repeat' ((first|(apply CmpP.go<;>intro hc<;>try omega)|apply RowP.e1|refine CallP.go (ev_StepN I J hnet hX.inp hwk _) ?_)<;>conv=>whnf))
   refine AppR.one (enc:=encSt false) T rfl hol.symm rfl (by omega) (by omega) ?_;rw[←hsn,orb_len];(conv=>whnf)
   (repeat' (apply RowP.e1<;>conv=>whnf))
   refine AppR.one (enc:=encInt) (gnx n x T) rfl (by rw[List.length_map];exact hol.symm) rfl (by rw[List.length_map];omega) (by rw[List.length_map];omega) ?_;rw[show (orbS (fnx n x) k s).map (gnx n x)++[gnx n x T]=(orbS (fnx n x) (k+1) s).map (gnx n x) by rw[hsn,List.map_append];rfl,List.length_map,orb_len];(conv=>whnf)
   skip
   have hnk2:T ∉ orbS (fnx n x) k s∧T ∉ keyS seen:=⟨fun h=>hnk ((seen_key _).2 (.inl h)),fun h=>hnk ((seen_key _).2 (.inr h))⟩;have ih1:=ih (k+1) (by omega) ⟨by
    rw[hsn,List.nodup_append];exact ⟨hk.nd,by simp,fun a ha b hb' e=>hnk2.1 (by rw[List.mem_singleton]at hb';rw[←hb',←e];exact ha)⟩,fun t ht=>by
    rw[hsn]at ht;rcases List.mem_append.1 ht with h|h
    ·exact hk.bx t h
    ·rw[List.mem_singleton.1 h];exact (withB_iff hTl).1 hf,fun t ht=>by
    rw[hsn]at ht;rcases List.mem_append.1 ht with h|h
    ·exact hk.nw t h
    ·rw[List.mem_singleton.1 h];exact hnk2.2⟩
   rw[hnx,hss]at ih1;exact AKM.back [(431007,431096),(431008,431100)] (by (conv=>whnf);exact ⟨rfl,rfl,rfl⟩) ih1
  | some v =>
   have hmem:=lk_some hlk;have hold:v≠(w:Int)+1→T∈keyS seen:=fun h=>by
    rcases List.mem_append.1 hmem with h'|h'
    ·obtain ⟨u,_,e⟩:=List.mem_map.1 (List.mem_reverse.1 h')
     exact absurd (Prod.mk.inj e).2.symm h
    ·exact List.mem_map.2 ⟨_,h',rfl⟩
   have hnew:v=(w:Int)+1→T∈orbS (fnx n x) k s:=fun h=>by
    rcases List.mem_append.1 hmem with h'|h'
    ·obtain ⟨u,hu,e⟩:=List.mem_map.1 (List.mem_reverse.1 h')
     rw[←(Prod.mk.inj e).1];exact hu
    ·have:=hn _ h'
     dsimp only at this;omega
   clear hmem;(conv=>whnf)
   (repeat' ((first|(apply CmpP.go<;>intro hc<;>try omega)|fail)<;>conv=>whnf))
   ·refine ⟨rfl,?_⟩
    (conv=>whnf)
    refine ⟨_,?_,hK k none hk (.old (by rw[hT];exact hold hc))⟩;exact ⟨rfl,rfl,rfl,rfl,rfl,trivial⟩
   ·obtain ⟨i0,hi0,hTi⟩:=orb_mem.1 (hnew hc)
    refine AKM.lq1 (fun i=>k-i) (fun (i:Nat)=>i≤i0) (fun i=>[(12,.int .i64 i)]) (fun _=>[]) 0 (by omega) ?_;intro i hi jh;have hget:=orb_get (f:=fnx n x) (k:=k) (j:=i) (s:=s) (by omega);have hUw:=hW i;have hUl:(itS (fnx n x) i s).length<9223372036854775808:=by have:=(hUw.okS hnet).len;omega
    have hC:=ev_slCompare N (itS (fnx n x) i s) T false false hUl (by have:=hTs.len;omega);have hne:itS (fnx n x) i s≠T→i≠i0:=fun h e=>h (by rw[e,hTi])
    have hUe : ∀ j,itS (fnx n x) j (itS (fnx n x) i s)=itS (fnx n x) (i+j) s:=fun j=>(it_add i j s).symm
    have hdr:=orb_drop (f:=fnx n x) i (k-i) s;rw[show i+(k-i)=k by omega]at hdr;generalize hU:itS (fnx n x) i s=U at *;(repeat' ((first|(apply Req.go;omega)|(refine LdR.nat ?_ (fun _=>rfl) (fun v hv => ?_);omega)|apply AKM.x)<;>conv=>whnf))
    obtain rfl:U=v:=Option.some.inj (hget.symm.trans hv);(repeat' ((first|(apply CmpP.go<;>intro hc<;>try omega)|(apply OpP.add;omega)|refine CallP.go (hC) ?_)<;>conv=>whnf))
    ·have:=hne (fun e=>hc (by rw[e,cmpL_self]))
     exact AKM.bk [] (jh (i+1) (by omega) (by omega))
    ·have hUT:U=T:=cmpL_zero hc
     refine Bds.sn (by omega) ?_;(conv=>whnf)
     skip
     refine Bds.sn (by omega) ?_;(conv=>whnf)
     rw[Int.toNat_natCast,Nat.zero_add];refine SnR.part (fun _=>rfl) (by omega) ?_;rw[hdr,List.take_of_length_le (by rw[orb_len];omega)];(conv=>whnf)
     refine SnR.part (fun _=>rfl) (by rw[List.length_map];omega) ?_;rw[←List.map_drop,hdr,List.take_of_length_le (by rw[List.length_map,orb_len];omega)];(conv=>whnf)
     have hp0:0<k-i:=by omega
     have hper:itS (fnx n x) (k-i) U=U:=by rw[hUe,show i+(k-i)=k by omega,hT,hUT]
     have hnd:(orbS (fnx n x) (k-i) U).Nodup:=by rw[←hdr];exact hk.nd.sublist (List.drop_sublist _ _)
     have hbx : ∀ t∈orbS (fnx n x) (k-i) U,inB box t:=fun t ht=>hk.bx t (by rw[←hdr]at ht;exact List.mem_of_mem_drop ht)
     have hcyc:=minC_cyc (g:=gnx n x) hp0 hper hnd hbx;have hmem:=fun t=>minC_mem (f:=fnx n x) (g:=gnx n x) (k-i) U t
     have hCy:=ev_cycle N (orbS (fnx n x) (k-i) U) ((orbS (fnx n x) (k-i) U).map (gnx n x)) false true true (by rw[orb_len];exact hp0) (by rw[List.length_map]) (by rw[orb_len];omega) (fun t ht=>by have:=((hok t (hbx t ht)).okS hnet).len;omega);generalize hc0:minC (orbS (fnx n x) (k-i) U,(orbS (fnx n x) (k-i) U).map (gnx n x))=c at *;(repeat' (refine CallP.go (hCy) ?_<;>conv=>whnf))
     refine ⟨rfl,?_⟩;(conv=>whnf)
     refine ⟨_,?_,hK k (some c) hk (.new i c _ (by omega) (by rw[hT,hU,hUT]) hcyc fun t => ?_)⟩
     ·exact ⟨rfl,rfl,rfl,rfl,rfl,trivial⟩
     ·rw[hmem t]
      constructor
      ·rintro ⟨j,hj,rfl⟩
       exact ⟨i+j,by omega,by omega,hUe j⟩
      ·rintro ⟨j,j1,j2,rfl⟩
       refine ⟨j-i,by omega,?_⟩;rw[hUe,show i+(j-i)=j by omega]
 ·refine ⟨rfl,?_⟩
  (conv=>whnf)
  refine ⟨_,?_,hK k none hk (.out (by rw[hT];exact fun h=>by rw[(withB_iff hTl).2 h]at hf;cases hf))⟩;exact ⟨rfl,rfl,rfl,rfl,rfl,trivial⟩
end Go.Eng

namespace Go.Eng
open F
set_option maxHeartbeats 4000000
variable {L:Lib} {kB:List Int→ByteArray}
theorem too_tot : ∀ {box:List Int} {a:Int},(∀ b∈box,0≤b)→0≤a→a≤4096→tooS box a=false→a*(totS box:Int)≤4096
 | [],a,_,_,h,_=>by simp only[totS];omega
 | b::box,a,hb,h0,_,h=>by
  simp only[tooS]at h;split at h
  ·cases h
  ·rename_i h1
   have hb0:=hb b List.mem_cons_self;have:=too_tot (a:=a*(2*b+1)) (fun x hx=>hb x (List.mem_cons_of_mem _ hx)) (Int.mul_nonneg h0 (by omega)) (by omega) h
   simp only[totS];rw[Int.natCast_mul,Int.toNat_of_nonneg (by omega),←Int.mul_assoc];exact this
theorem OkX.of {n:Nt} {x:Int} {box:List Int} (h:checkS n x box=0):OkX n x box:=by
 unfold checkS at h;split at h
 ·rename_i h1
  split at h
  ·rename_i h2
   split at h
   ·rename_i h3
    split at h
    ·rename_i h4
     split at h
     ·rename_i h5
      split at h
      ·cases h
      ·rename_i h6
       have hb : ∀ b∈box,0≤b:=fun b hb=>of_decide_eq_true (List.all_eq_true.1 h3 b hb)
       have:=too_tot (a:=1) hb (by omega) (by omega) (Bool.not_eq_true _ ▸ h6)
       exact ⟨h1,h4,h2,h5,hb,by omega⟩
     ·cases h
    ·cases h
   ·cases h
  ·cases h
 ·cases h
theorem ApfP.ints {s:List Int} {K:List (List AV)→Prop} (h:s.length≤1000000) (hk:K (s.map encInt)):ApfP (s.map encInt) 1 8 K :=
 ⟨fun e he=>by
  obtain ⟨v,_,rfl⟩:=List.mem_map.1 he;exact ⟨rfl,by simp [num1]⟩,by rw[List.length_map];simp only[roomMax];omega,by rw[List.length_map];omega,hk⟩
structure SrtOK (L:Lib):Prop where
 srts:L.srts 434=some 2
 num:L.num 435=kn435
 cmp : ∀ (c d:List (List Int) × List Int) (s t:List Int),c.1[0]? = some s→d.1[0]? = some t→s.length≤64→t.length≤64→L.cmp 435 [.agg (eCy c),.agg (eCy d)]=some (.int .i64 (cmpL s t))
theorem SrtP.cyc (Z:SrtOK L) {l:List (List (List Int) × List Int)} {len:Nat} {K:List (List AV)→Prop} (hl:len=l.length) (hb:l.length≤1000000) (hh : ∀ c∈l,∃ s,c.1[0]? = some s∧s.length≤64)
  (hd : ∀ (i j:Nat) (c d:List (List Int) × List Int) (s t:List Int),l[i]? = some c→l[j]? = some d→c.1[0]? = some s→d.1[0]? = some t→s=t→i=j)
  (h : ∀ l':List (List (List Int) × List Int),l'.Perm l→(∀ (i j:Nat) (c d:List (List Int) × List Int),l'[i]? = some c→l'[j]? = some d→i<j → ∀ s t,c.1[0]? = some s→d.1[0]? = some t→cmpL s t<0)→K (l'.map eCy)):SrtP L 435 (l.map eCy) len K:=by
 have hd0 : ∀ c∈l,c.1[0]? = some (c.1.head?.getD []):=fun c hc=>by
  obtain ⟨s,hs,_⟩:=hh c hc;rw[←List.head?_eq_getElem?]at hs;rw[←List.head?_eq_getElem?,hs];rfl
 let le:=fun c d:List (List Int) × List Int=>decide (cmpL (c.1.head?.getD []) (d.1.head?.getD [])≤0)
 have hp:=List.mergeSort_perm l le;have tr : ∀ a b c,le a b=true→le b c=true→le a c=true:=fun a b c h1 h2=>by
  have h1:=of_decide_eq_true h1;have h2:=of_decide_eq_true h2;refine decide_eq_true ?_;rcases Int.lt_or_eq_of_le h1 with e1|e1
  ·rcases Int.lt_or_eq_of_le h2 with e2|e2
   ·have:=cmpL_trans e1 e2;omega
   ·rw[←cmpL_zero e2];exact h1
  ·rw[cmpL_zero e1];exact h2
 have tot : ∀ a b,(le a b||le b a)=true:=fun a b=>by
  have:=cmpL_neg (a.1.head?.getD []) (b.1.head?.getD [])
  rw[Bool.or_eq_true];rcases Int.le_total (cmpL (a.1.head?.getD []) (b.1.head?.getD [])) 0 with e|e
  ·exact .inl (decide_eq_true e)
  ·exact .inr (decide_eq_true (by omega))
 have hs:=List.pairwise_mergeSort tr tot l;have hnd:l.Pairwise fun c d=>c.1[0]? ≠ d.1[0]? := by
  rw[List.pairwise_iff_getElem];intro i j hi hj hij e;obtain ⟨s,h1,_⟩:=hh _ (List.getElem_mem hi);have:=hd i j _ _ s s (List.getElem?_eq_getElem hi) (List.getElem?_eq_getElem hj) h1 (e ▸ h1) rfl
  omega
 have hnd':(l.mergeSort le).Pairwise fun c d=>c.1[0]? ≠ d.1[0]? := (hp.pairwise_iff (fun h=>h.symm)).2 hnd
 have hlt : ∀ (i j:Nat) (c d:List (List Int) × List Int),(l.mergeSort le)[i]? = some c→(l.mergeSort le)[j]? = some d→i<j → ∀ s t,c.1[0]? = some s→d.1[0]? = some t→cmpL s t<0:=fun i j c d h1 h2 hij s t h3 h4=>by
  obtain ⟨i1,rfl⟩:=List.getElem?_eq_some_iff.1 h1;obtain ⟨j1,rfl⟩:=List.getElem?_eq_some_iff.1 h2;have e1:=of_decide_eq_true (List.pairwise_iff_getElem.1 hs i j i1 j1 hij);have e2:=List.pairwise_iff_getElem.1 hnd' i j i1 j1 hij;rw[List.head?_eq_getElem?,List.head?_eq_getElem?,h3,h4]at e1;simp only[Option.getD_some]at e1;rw[h3,h4]at e2;rcases Int.lt_or_eq_of_le e1 with e|e
  ·exact e
  ·exact absurd (congrArg some (cmpL_zero e)) e2
 refine ⟨by rw[List.length_map];exact hl,by omega,_,⟨hp.map eCy,?_,fun i j x y hx hy => ?_⟩,h _ hp hlt⟩
 ·refine cleanLL_map (fun c => ?_) l
  have:=cl_eCy c
  exact this
 ·rw[List.getElem?_map,Option.map_eq_some_iff]at hx hy
  obtain ⟨c,hc,rfl⟩:=hx;obtain ⟨d,hd',rfl⟩:=hy;obtain ⟨s,s1,s2⟩:=hh c (hp.mem_iff.1 (List.mem_of_getElem? hc));obtain ⟨t,t1,t2⟩:=hh d (hp.mem_iff.1 (List.mem_of_getElem? hd'));refine ⟨_,Z.cmp c d s t s1 t1 s2 t2,fun hlt' => ?_,fun hij=>hlt i j c d hc hd' hij s t s1 t1⟩;rcases Nat.lt_trichotomy i j with h1|h1|h1
  ·exact h1
  ·subst h1
   rw[hc]at hd';obtain rfl:=Option.some.inj hd';rw[s1]at t1;obtain rfl:=Option.some.inj t1;rw[cmpL_self]at hlt';omega
  ·have:=hlt j i d c hd' hc h1 t s t1 s1
   rw[cmpL_neg]at this;omega
theorem WalkR.mem {f:List Int→List Int} {g:List Int→Int} {box:List Int} {seen:List (List Int × Int)} {s:List Int} {k:Nat} {r:Option (List (List Int) × List Int)} (hs:inB box s) (hk:WalkK f box seen s k) (hr:WalkR f g box seen s k r) (w:Int):s∈keyS (seenS f seen s w k):=by
 rcases k with _|k
 ·cases hr with
  | out h=>exact absurd hs h
  | old h=>exact (seen_key f).2 (.inr h)
  | new i c u hi=>exact absurd hi (by omega)
 ·exact (seen_key f).2 (.inl (orb_mem.2 ⟨0,by omega,rfl⟩))
attribute [local irreducible] AKM CmpP Req OpP UnP RdP LdR StR MkR AppR AppN CpyR RowP SnR Bds SlS CallP CalP FinP pw LdM GetM SetM PutM MkM AppM SnM FlP CallR MpG MpS ApfP SrtP
theorem ev_Cycles (I:FixedLib L) (J:NetLib L) (N:LimGLib L) (Y:KeyOK L kB) (Z:SrtOK L) {n:Nt} {x:Int} {box:List Int} (h:checkS n x box=0) (q:Bool) :
  ∃ v,Ev L 433 [.agg (encN n),.int .i64 x,.sl q (box.map encInt)] v ∧ ∃ l,CycList (fnx n x) (gnx n x) box l∧v = .tup [.sl false (l.map eCy),.int .i64 0]:=by
 have hX:=OkX.of h;obtain ⟨g1,g2,g3,g4,g5,g6⟩:=(netB_iff n).1 hX.net;have hbl:=hX.len;have hC:=ev_check I J N n x box q (by omega);rw[h]at hC;obtain ⟨b1,b2⟩:=inB_low hX.nn;have hft : ∀ b∈box,b≤8388607:=fun b h=>(ft_small (of_decide_eq_true (List.all_eq_true.1 hX.wd b h))).2
 refine Ev.xE N.limitcycle_Cycles rfl rfl ?_;(repeat' ((first|(apply CmpP.go<;>intro hc<;>try omega)|apply LenP.go|apply AKM.x|refine CallP.go (hC) ?_)<;>conv=>whnf))
 refine MkR.go (enc:=encInt) 0 box.length rfl rfl (by omega) ?_;(conv=>whnf)
 (repeat' (apply LenP.go<;>conv=>whnf))
 refine AKM.lq2 (fun i _=>box.length-i) (fun (i:Nat) (o:List Int)=>i≤box.length∧o.length=(box.map fun v => -v).length∧o.take i=(box.map fun v => -v).take i) (fun i _=>[(35,.int .i64 i)]) (fun _ o=>[(32,32,.rw 1 (o.map encInt))]) 0 (List.replicate box.length 0) ⟨by omega,by simp,rfl⟩ ?_;intro i o ⟨p1,p2,p3⟩ ih;by_cases hi:i<box.length
 ·obtain ⟨b,hb⟩ : ∃ b,box[i]? = some b:=⟨_,List.getElem?_eq_getElem hi⟩
  have hb0:=hX.nn b (List.mem_of_getElem? hb);have hb1:=hft b (List.mem_of_getElem? hb);have hol:o.length=box.length:=by rw[p2,List.length_map]
  obtain ⟨f1,f2⟩:=fill_step p2 p3 (v := -b) (by rw[List.getElem?_map,hb];rfl);(repeat' ((first|(apply CmpP.go<;>intro hc<;>try omega)|(apply Req.go;omega)|(apply UnP.neg;omega)|(refine RdP.at (by assumption) ?_ rfl ?_;omega)|apply AKM.x)<;>conv=>whnf))
  refine StR.nat (enc:=encInt) (-b) rfl (fun _=>rfl) (by omega) ?_;(conv=>whnf)
  (repeat' ((first|(apply OpP.add;omega)|fail)<;>conv=>whnf))
  exact AKM.back [] (by (conv=>whnf);exact ⟨rfl,rfl,rfl⟩) (ih (i+1) _ (by omega) ⟨by omega,f1,f2⟩)
 have ei:=fill_done p2 p3 (by rw[List.length_map];omega);subst ei;clear ih p2 p3;(repeat' ((first|(apply CmpP.go<;>intro hc<;>try omega)|apply AKM.x)<;>conv=>whnf))
 refine AKM.loop5 (fun k _ _ _ _=>totS box-k) (fun (k:Nat) (st:List Int) (more:Bool) (seen:List (List Int × Int)) (l:List (List (List Int) × List Int))=>Found (fnx n x) (gnx n x) box seen l k∧st.length=box.length∧l.length≤k∧k≤totS box∧(∀ t,inB box t→idxS box t<k→t∈keyS seen)∧(more=true→inB box st∧idxS box st=k)∧(more=false→k=totS box)) (fun _ _ more _ l=>[(14,.bool more),(13,.row 13 0 2 0 l.length)]) (fun k st _ seen l=>[(960028,960028,.rw 2 (eSeen kB seen)),(9,9,.bx (eExp n x q box k)),(32,32,.rw 1 (st.map encInt)),(13,13,.rw 2 (l.map eCy))]) [] [] 0 (box.map fun v => -v) true [] [] (by (conv=>whnf);exact ⟨rfl,rfl,rfl⟩) ⟨Found.start,by simp,by simp,by omega,fun t _ h=>absurd h (by omega),fun _=>⟨b1,b2⟩,fun h=>by cases h⟩ ?_;intro k st more seen l ⟨p1,hstl,p3,p4,p5,p6,p7⟩ ih;have htot:=hX.tot;cases more with
 | true =>
  obtain ⟨hin,hidx⟩:=p6 rfl;have hlt:=idx_lt hin;clear p6 p7;(repeat' (apply AKM.x<;>conv=>whnf))
  refine RowP.all rfl hstl.symm ?_;(conv=>whnf)
  refine ApfP.ints (by omega) ?_;(conv=>whnf)
  skip
  refine CalP.sub [3,960028,9,32,13,51] (memW n x q box st (l.map eCy) (eSeen kB seen) k) ⟨rfl,rfl,rfl,rfl,rfl,trivial⟩ rfl (cal_walk I J N Y hX q st (l.map eCy) hin p1.bx p1.num p1.nd (by omega) _ (fun kk r hk hr => ?_));have hF:=p1.walk hk hr;have hS:=WalkR.mem hin hk hr ((k:Int)+1);have hn5 : ∀ t,inB box t→idxS box t<k+1→t∈keyS (seenS (fnx n x) seen st ((k:Int)+1) kk):=fun t ht hti=>by
   by_cases e:idxS box t<k
   ·exact (seen_key _).2 (.inr (p5 t ht e))
   ·rw[idx_inj ht hin (by omega)]
    exact hS
  have hwk:((k:Int)+1)=((k+1:Nat):Int):=by omega
  rw[hwk]at hF hn5 ⊢;generalize seenS (fnx n x) seen st ((k+1:Nat):Int) kk=seen' at *;clear hS p5 p1 hk;cases r with
  | none =>
   simp only[Option.toList_none,List.append_nil]at hF;(conv=>whnf)
   (repeat' ((first|(apply CmpP.go<;>intro hc<;>try omega)|fail)<;>conv=>whnf))
   refine CalP.walk 1000 N.limitcycle_next rfl rfl ?_;(repeat' ((first|(apply OpP.sub;omega)|apply AKM.x)<;>conv=>whnf))
   refine AKM.loop1 (fun j=>j) (fun (j:Nat)=>j≤box.length ∧ ∀ (i:Nat) (u v:Int),j≤i→st[i]? = some u→box[i]? = some v→v≤u) (fun j=>[(5,.int .i64 ((j:Int)-1))]) (fun j=>[(32,32,.rw 1 ((st.take j++(box.drop j).map fun v => -v).map encInt))]) [] [] box.length (by rw[List.drop_length,List.take_of_length_le (by omega),List.map_nil,List.append_nil,←hstl];exact (by (conv=>whnf);exact ⟨rfl,rfl,rfl⟩)) ⟨by omega,fun i u v h1 h2 h3=>by have:=(List.getElem?_eq_some_iff.1 h2).1;omega⟩ ?_;intro j ⟨j1,j2⟩ jh;rcases j with _|j
   focus
    have hnn:nextS box st=none:=next_max hstl fun i u v h1 h2=>j2 i u v (by omega) h1 h2
    rw[List.take_zero,List.nil_append,List.drop_zero];(repeat' ((first|(apply CmpP.go<;>intro hc<;>try omega)|apply AKM.x)<;>conv=>whnf))
    refine ⟨rfl,_,rfl,?_⟩;(conv=>whnf)
    skip
    exact AKM.back [] (by (conv=>whnf);exact ⟨rfl,rfl,rfl⟩) (ih (k+1) (box.map fun v => -v) false seen' l (by omega) ⟨hF,by rw[List.length_map],by (try rw[List.length_append,List.length_singleton]);omega,by omega,hn5,fun h=>(by cases h),fun _=>by have:=next_none hX.nn hin hnn;omega⟩)
   obtain ⟨u,hu⟩ : ∃ u,st[j]? = some u:=⟨_,List.getElem?_eq_getElem (by omega)⟩;obtain ⟨v,hv⟩ : ∃ v,box[j]? = some v:=⟨_,List.getElem?_eq_getElem (by omega)⟩;have hv0:=hX.nn v (List.mem_of_getElem? hv);have hv1:=hft v (List.mem_of_getElem? hv);have huv:=inB_get hin hu hv;have e1:((j+1:Nat):Int)-1=(j:Int):=by omega
   have htl:(st.take j).length=j:=by rw[List.length_take];omega
   have ho:(st.take (j+1)++(box.drop (j+1)).map fun v => -v)[0+((j:Int)).toNat]? = some u:=by rw[Nat.zero_add,Int.toNat_natCast,List.getElem?_append_left (by rw[List.length_take];omega),List.getElem?_take_of_lt (by omega),hu]
   have hset : ∀ y:Int,(st.take (j+1)++(box.drop (j+1)).map fun v => -v).set j y=st.take j++y::(box.drop (j+1)).map fun v => -v:=fun y=>by
    rw[List.take_add_one,hu,Option.toList_some,List.append_assoc,List.set_append_right _ _ (by omega),htl,Nat.sub_self];rfl
   have hol:(st.take (j+1)++(box.drop (j+1)).map fun v => -v).length=box.length:=by rw[List.length_append,List.length_map,List.length_take,List.length_drop];omega
   rw[e1];generalize ho0:st.take (j+1)++(box.drop (j+1)).map (fun v => -v)=o at *;(repeat' ((first|(apply CmpP.go<;>intro hc<;>try omega)|(apply Req.go;omega)|apply AKM.x)<;>conv=>whnf))
   refine LdR.at (enc:=encInt) ho rfl ?_;(conv=>whnf)
   (repeat' ((first|(apply CmpP.go<;>intro hc<;>try omega)|(apply Req.go;omega)|(apply UnP.neg;omega)|(refine RdP.at (by assumption) ?_ rfl ?_;omega))<;>conv=>whnf))
   focus
    have hat:=next_at (box:=box) (s:=st) (i:=j) hstl hu hv (by omega) fun i x y h1 h2 h3=>j2 i x y (by omega) h2 h3
    refine LdR.at (enc:=encInt) ho rfl ?_;(conv=>whnf)
    (repeat' ((first|(apply Req.go;omega)|(apply OpP.add;omega))<;>conv=>whnf))
    refine StR.nat (enc:=encInt) (u+1) rfl (fun _=>rfl) (by omega) ?_;rw[hset];(conv=>whnf)
    skip
    refine ⟨rfl,_,rfl,?_⟩;(conv=>whnf)
    skip
    obtain ⟨n1,n2⟩:=next_some hX.nn hin hat;exact AKM.back [] (by (conv=>whnf);exact ⟨rfl,rfl,rfl⟩) (ih (k+1) _ true seen' l (by omega) ⟨hF,inB_len n1,by (try rw[List.length_append,List.length_singleton]);omega,by omega,hn5,fun _=>⟨n1,by omega⟩,fun h=>(by cases h)⟩)
   refine StR.nat (enc:=encInt) (-v) rfl (fun _=>rfl) (by omega) ?_;rw[hset,show -v::(box.drop (j+1)).map (fun v => -v)=(box.drop j).map fun v => -v by rw[drop_cons hv];rfl];(conv=>whnf)
   (repeat' ((first|(apply OpP.sub;omega)|fail)<;>conv=>whnf))
   exact AKM.bk [] (jh j (by omega) ⟨by omega,fun i x y h1 h2 h3=>by
    by_cases e:i=j
    ·subst e
     rw[hu]at h2;rw[hv]at h3;obtain rfl:=Option.some.inj h2;obtain rfl:=Option.some.inj h3;omega
    ·exact j2 i x y (by omega) h2 h3⟩)
  | some c =>
   simp only[Option.toList_some]at hF;(conv=>whnf)
   (repeat' ((first|(apply CmpP.go<;>intro hc<;>try omega)|apply RowP.e1)<;>conv=>whnf))
   refine AppR.one (enc:=eCy) c rfl rfl rfl (by omega) (by omega) ?_;(conv=>whnf)
   skip
   refine CalP.walk 1000 N.limitcycle_next rfl rfl ?_;(repeat' ((first|(apply OpP.sub;omega)|apply AKM.x)<;>conv=>whnf))
   refine AKM.loop1 (fun j=>j) (fun (j:Nat)=>j≤box.length ∧ ∀ (i:Nat) (u v:Int),j≤i→st[i]? = some u→box[i]? = some v→v≤u) (fun j=>[(5,.int .i64 ((j:Int)-1))]) (fun j=>[(32,32,.rw 1 ((st.take j++(box.drop j).map fun v => -v).map encInt))]) [] [] box.length (by rw[List.drop_length,List.take_of_length_le (by omega),List.map_nil,List.append_nil,←hstl];exact (by (conv=>whnf);exact ⟨rfl,rfl,rfl⟩)) ⟨by omega,fun i u v h1 h2 h3=>by have:=(List.getElem?_eq_some_iff.1 h2).1;omega⟩ ?_;intro j ⟨j1,j2⟩ jh;rcases j with _|j
   focus
    have hnn:nextS box st=none:=next_max hstl fun i u v h1 h2=>j2 i u v (by omega) h1 h2
    rw[List.take_zero,List.nil_append,List.drop_zero];(repeat' ((first|(apply CmpP.go<;>intro hc<;>try omega)|apply AKM.x)<;>conv=>whnf))
    refine ⟨rfl,_,rfl,?_⟩;(conv=>whnf)
    skip
    exact AKM.back [(13,65)] (by (conv=>whnf);exact ⟨rfl,rfl,rfl⟩) (ih (k+1) (box.map fun v => -v) false seen' (l++[c]) (by omega) ⟨hF,by rw[List.length_map],by (try rw[List.length_append,List.length_singleton]);omega,by omega,hn5,fun h=>(by cases h),fun _=>by have:=next_none hX.nn hin hnn;omega⟩)
   obtain ⟨u,hu⟩ : ∃ u,st[j]? = some u:=⟨_,List.getElem?_eq_getElem (by omega)⟩;obtain ⟨v,hv⟩ : ∃ v,box[j]? = some v:=⟨_,List.getElem?_eq_getElem (by omega)⟩;have hv0:=hX.nn v (List.mem_of_getElem? hv);have hv1:=hft v (List.mem_of_getElem? hv);have huv:=inB_get hin hu hv;have e1:((j+1:Nat):Int)-1=(j:Int):=by omega
   have htl:(st.take j).length=j:=by rw[List.length_take];omega
   have ho:(st.take (j+1)++(box.drop (j+1)).map fun v => -v)[0+((j:Int)).toNat]? = some u:=by rw[Nat.zero_add,Int.toNat_natCast,List.getElem?_append_left (by rw[List.length_take];omega),List.getElem?_take_of_lt (by omega),hu]
   have hset : ∀ y:Int,(st.take (j+1)++(box.drop (j+1)).map fun v => -v).set j y=st.take j++y::(box.drop (j+1)).map fun v => -v:=fun y=>by
    rw[List.take_add_one,hu,Option.toList_some,List.append_assoc,List.set_append_right _ _ (by omega),htl,Nat.sub_self];rfl
   have hol:(st.take (j+1)++(box.drop (j+1)).map fun v => -v).length=box.length:=by rw[List.length_append,List.length_map,List.length_take,List.length_drop];omega
   rw[e1];generalize ho0:st.take (j+1)++(box.drop (j+1)).map (fun v => -v)=o at *;(repeat' ((first|(apply CmpP.go<;>intro hc<;>try omega)|(apply Req.go;omega)|apply AKM.x)<;>conv=>whnf))
   refine LdR.at (enc:=encInt) ho rfl ?_;(conv=>whnf)
   (repeat' ((first|(apply CmpP.go<;>intro hc<;>try omega)|(apply Req.go;omega)|(apply UnP.neg;omega)|(refine RdP.at (by assumption) ?_ rfl ?_;omega))<;>conv=>whnf))
   focus
    have hat:=next_at (box:=box) (s:=st) (i:=j) hstl hu hv (by omega) fun i x y h1 h2 h3=>j2 i x y (by omega) h2 h3
    refine LdR.at (enc:=encInt) ho rfl ?_;(conv=>whnf)
    (repeat' ((first|(apply Req.go;omega)|(apply OpP.add;omega))<;>conv=>whnf))
    refine StR.nat (enc:=encInt) (u+1) rfl (fun _=>rfl) (by omega) ?_;rw[hset];(conv=>whnf)
    skip
    refine ⟨rfl,_,rfl,?_⟩;(conv=>whnf)
    skip
    obtain ⟨n1,n2⟩:=next_some hX.nn hin hat;exact AKM.back [(13,65)] (by (conv=>whnf);exact ⟨rfl,rfl,rfl⟩) (ih (k+1) _ true seen' (l++[c]) (by omega) ⟨hF,inB_len n1,by (try rw[List.length_append,List.length_singleton]);omega,by omega,hn5,fun _=>⟨n1,by omega⟩,fun h=>(by cases h)⟩)
   refine StR.nat (enc:=encInt) (-v) rfl (fun _=>rfl) (by omega) ?_;rw[hset,show -v::(box.drop (j+1)).map (fun v => -v)=(box.drop j).map fun v => -v by rw[drop_cons hv];rfl];(conv=>whnf)
   (repeat' ((first|(apply OpP.sub;omega)|fail)<;>conv=>whnf))
   exact AKM.bk [] (jh j (by omega) ⟨by omega,fun i x y h1 h2 h3=>by
    by_cases e:i=j
    ·subst e
     rw[hu]at h2;rw[hv]at h3;obtain rfl:=Option.some.inj h2;obtain rfl:=Option.some.inj h3;omega
    ·exact j2 i x y (by omega) h2 h3⟩)
 | false =>
  have hk:=p7 rfl;have hh : ∀ c∈l,∃ s,c.1[0]? = some s∧s.length≤64:=fun c hc=>by
   obtain ⟨⟨s,m,h1⟩,_⟩:=p1.cyc c hc;refine ⟨s,h1.head,?_⟩;have:=inB_len (h1.box s (orb_mem.2 ⟨0,h1.pos,rfl⟩))
   omega
  (repeat' (apply AKM.x<;>conv=>whnf))
  refine Req.go ⟨rfl,Z.num.symm,Z.srts⟩ ?_;(conv=>whnf)
  refine SrtP.cyc Z rfl (by omega) hh (fun i j c d s t h1 h2 h3 h4 h5=>p1.heads h1 h2 h3 h4 h5) (fun l' hp ho => ?_);have hfull:=p1.full (fun t ht=>p5 t ht (by rw[hk];exact idx_lt ht)) hp ho;have hll:l.length=l'.length:=hp.length_eq.symm;(conv=>whnf)
  skip
  rw[hll];refine ⟨_,?_,l',hfull,rfl⟩;(conv=>whnf)
  refine SnR.all (fun _=>rfl) rfl rfl ?_;(conv=>whnf)
  refine FinP.go rfl ?_;simp only[Clean,CleanL,true_and,and_true];exact cleanLL_map (fun c=>cl_eCy c) l'
end Go.Eng

namespace Go.Eng
open F
variable {L:Lib} {kB:List Int→ByteArray}
attribute [local irreducible] AKM CmpP Req OpP UnP RdP LdR StR MkR AppR AppN CpyR RowP SnR Bds SlS CallP CalP FinP pw LdM GetM SetM PutM MkM AppM SnM FlP CallR MpG MpS ApfP SrtP
set_option maxHeartbeats 4000000
set_option maxRecDepth 8000
end Go.Eng

namespace Go.Eng
open F
set_option maxHeartbeats 4000000
set_option maxRecDepth 8000
variable {L:Lib} {kB:List Int→ByteArray}
section
variable {f:List Int→List Int} {g:List Int→Int} {box:List Int} {l:List (List (List Int) × List Int)}
theorem IsCyc.len {B:List Int→Prop} {c:List (List Int) × List Int} {s:List Int} {k:Nat} (h:IsCyc f g B c s k):c.1.length=k∧c.2.length=k:=by
 rw[h.st,h.out,List.length_map];exact ⟨orb_len k s,orb_len k s⟩
theorem IsCyc.at {B:List Int→Prop} {c:List (List Int) × List Int} {s:List Int} {k j:Nat} (h:IsCyc f g B c s k) (hj:j<k):c.1[j]? = some (itS f j s)∧c.2[j]? = some (g (itS f j s)):=by
 rw[h.st,h.out,List.getElem?_map,orb_get hj];exact ⟨rfl,rfl⟩
theorem IsCyc.next {B:List Int→Prop} {c:List (List Int) × List Int} {s:List Int} {k:Nat} (h:IsCyc f g B c s k) (j:Nat):c.1[(j+1)%k]? = some (f (itS f j s)):=by
 rw[(h.at (Nat.mod_lt _ h.pos)).1,←it_succ (f:=f),←it_mod h.per]
theorem IsCyc.tot {c:List (List Int) × List Int} {s:List Int} {k:Nat} (h:IsCyc f g (inB box) c s k):k≤totS box:=by
 have:=nodup_tot h.nd h.box
 rwa [orb_len]at this
theorem CycList.nd (h:CycList f g box l):l.Pairwise fun c d => ∀ t∈c.1,t ∉ d.1:=by
 refine List.Pairwise.imp_of_mem ?_ h.asc;intro c d hc hd hcd t h1 h2;obtain ⟨s,k,q1⟩:=h.cyc c hc;obtain ⟨u,m,q2⟩:=h.cyc d hd;obtain ⟨rfl,_⟩:=q1.uniq q2 h1 h2;have:=hcd s s q1.head q1.head
 rw[cmpL_self]at this;omega
theorem CycList.tot (h:CycList f g box l):l.length≤totS box:=by
 have h1:(l.map fun c=>c.1.head?.getD []).Nodup:=by
  rw[List.Nodup,List.pairwise_map];refine List.Pairwise.imp_of_mem ?_ h.asc;intro c d hc hd hcd e;obtain ⟨s,k,q1⟩:=h.cyc c hc;obtain ⟨u,m,q2⟩:=h.cyc d hd;have h1:=q1.head;have h2:=q2.head;rw[List.head?_eq_getElem?,List.head?_eq_getElem?,h1,h2]at e;have e:s=u:=e;have:=hcd s u h1 h2
  rw[e,cmpL_self]at this;omega
 have:=nodup_tot (box:=box) h1 (fun s hs=>by
  obtain ⟨c,hc,rfl⟩:=List.mem_map.1 hs;obtain ⟨s,k,q1⟩:=h.cyc c hc;have h2:=q1.head;rw[List.head?_eq_getElem?,h2];exact q1.box s (orb_mem.2 ⟨0,q1.pos,rfl⟩))
 simpa using this
theorem CycList.of (h1 : ∀ c∈l,∃ s k,IsCyc f g (inB box) c s k) (h2 : ∀ s,inB box s→(∃ c∈l,s∈c.1) ∨ ∀ n,0<n→itS f n s≠s) (h3:l.Pairwise fun c d => ∀ s t,c.1[0]? = some s→d.1[0]? = some t→cmpL s t<0):CycList f g box l:=by
 refine ⟨h1,fun c s k hc => ?_,h3⟩;have hs:s∈orbS f k s:=orb_mem.2 ⟨0,hc.pos,rfl⟩;rcases h2 s (hc.box s hs) with ⟨d,hd,hm⟩|h
 ·obtain ⟨u,m,hu⟩:=h1 d hd
  rw[(hc.uniq hu (by rw[hc.st];exact hs) hm).1];exact hd
 ·exact absurd hc.per (h k hc.pos)
end
def knC:Nt:=⟨⟨6,0,1,1⟩,⟨6,0,1,1⟩,1,true,[⟨true,[(1,-1)]⟩],true,[2],2⟩
def knL:List (List (List Int) × List Int):=[([[-1],[1]],[1,-1]),([[0]],[0])]
theorem knC_list:CycList (fnx knC 0) (gnx knC 0) [1] knL:=by
 have a1:IsCyc (fnx knC 0) (gnx knC 0) (inB [1]) ([[-1],[1]],[1,-1]) [-1] 2:=by
  refine ⟨by omega,by decide +kernel,by decide +kernel,by decide +kernel,by decide +kernel,?_,by decide +kernel⟩;rw[show orbS (fnx knC 0) 2 [-1]=[[-1],[1]] by decide +kernel];simp [inB]
 have a2:IsCyc (fnx knC 0) (gnx knC 0) (inB [1]) ([[0]],[0]) [0] 1:=by
  refine ⟨by omega,by decide +kernel,by decide +kernel,by decide +kernel,by decide +kernel,?_,by decide +kernel⟩;rw[show orbS (fnx knC 0) 1 [0]=[[0]] by decide +kernel];simp [inB]
 refine CycList.of ?_ ?_ ?_
 ·intro c hc
  simp only[knL,List.mem_cons,List.not_mem_nil,or_false]at hc;rcases hc with rfl|rfl
  ·exact ⟨_,_,a1⟩
  ·exact ⟨_,_,a2⟩
 ·intro s hs
  refine .inl ?_;match s,hs with
  | [v],⟨h,_⟩ =>
   rcases (by omega:v = -1∨v=0∨v=1) with rfl|rfl|rfl
   ·exact ⟨_,List.mem_cons_self,List.mem_cons_self⟩
   ·exact ⟨_,List.mem_cons_of_mem _ List.mem_cons_self,List.mem_cons_self⟩
   ·exact ⟨_,List.mem_cons_self,List.mem_cons_of_mem _ List.mem_cons_self⟩
 ·simp [knL]
  decide
attribute [local irreducible] AKM CmpP Req OpP UnP RdP LdR StR MkR AppR AppN CpyR RowP SnR Bds SlS CallP CalP FinP pw LdM GetM SetM PutM MkM AppM SnM FlP CallR MpG MpS ApfP SrtP
theorem ev_law31_known (I:FixedLib L) (J:NetLib L) (N:LimGLib L) (C:LawLCLib L) (Y:KeyOK L kB) (Z:SrtOK L):Ev L 437 [] (.bool true):=by
 have hck:checkS knC 0 [1]=0:=by decide +kernel
 obtain ⟨v,hv,l,hl,rfl⟩:=ev_Cycles I J N Y Z hck true;obtain rfl:=hl.uniq knC_list;have i0:knL[((0:Int)).toNat]? = some ([[-1],[1]],[1,-1]):=rfl;have i1:knL[((1:Int)).toNat]? = some ([[0]],[0]):=rfl;have i2:([[-1],[1]]:List (List Int))[((0:Int)).toNat]? = some [-1]:=rfl;have hl2:knL.length=2:=rfl;have s1:=fun q=>ev_ref21_SameInts I [-1] [-1] false q (by decide) (by decide)
 have s2:=fun q=>ev_ref21_SameInts I [1,-1] [1,-1] false q (by decide) (by decide)
 generalize knL=l at *;refine Ev.x C.law31_known rfl rfl ?_;(repeat' (apply AKM.x<;>conv=>whnf))
 refine Req.go rfl ?_;(conv=>whnf)
 (repeat' ((first|(apply CmpP.go<;>intro hc<;>try omega)|apply LenP.go|(refine RdP.at (by assumption) ?_ rfl ?_;omega)|refine SnR.e1 rfl ?_|refine SnR.e2 rfl rfl ?_|refine CallP.go (hv) ?_|refine CallP.go (s1 _) ?_|refine CallP.go (s2 _) ?_)<;>conv=>whnf))
 all_goals first|exact absurd rfl hc|exact FinP.b (by decide)
end Go.Eng

namespace Go.Eng
open F
set_option maxHeartbeats 4000000
set_option maxRecDepth 8000
variable {L:Lib} {kB:List Int→ByteArray}
structure SeenC (l:List (List (List Int) × List Int)) (i k:Nat) (seen:List (List Int)):Prop where
 len:seen.length≤i*4096+k
 mem : ∀ t∈seen,(∃ j c,j<i∧l[j]? = some c∧t∈c.1) ∨ ∃ c j,l[i]? = some c∧j<k∧c.1[j]? = some t
theorem SeenC.zero (l:List (List (List Int) × List Int)):SeenC l 0 0 []:=⟨by simp,by simp⟩
theorem SeenC.step {l:List (List (List Int) × List Int)} {i k:Nat} {seen:List (List Int)} (h:SeenC l i k seen) {c:List (List Int) × List Int} {t:List Int} (hc:l[i]? = some c) (ht:c.1[k]? = some t):SeenC l i (k+1) (seen++[t]):=by
 refine ⟨by have:=h.len;simp;omega,fun u hu => ?_⟩;rcases List.mem_append.1 hu with hu|hu
 ·rcases h.mem u hu with h'|⟨c',j,h1,h2,h3⟩
  ·exact .inl h'
  ·exact .inr ⟨c',j,h1,by omega,h3⟩
 ·rw[List.mem_singleton.1 hu]
  exact .inr ⟨c,k,hc,by omega,ht⟩
theorem SeenC.new {l:List (List (List Int) × List Int)} {f:List Int→List Int} {g:List Int→Int} {box:List Int} (hl:CycList f g box l) {i k:Nat} {seen:List (List Int)} (h:SeenC l i k seen) {c:List (List Int) × List Int} {s:List Int} {m:Nat} (hc:l[i]? = some c) (hcy:IsCyc f g (inB box) c s m) (hk:k<m):itS f k s ∉ seen:=fun hm=>by
 rcases h.mem _ hm with ⟨j,d,h1,h2,h3⟩|⟨d,j,h1,h2,h3⟩
 ·obtain ⟨j1,rfl⟩:=List.getElem?_eq_some_iff.1 h2
  obtain ⟨i1,rfl⟩:=List.getElem?_eq_some_iff.1 hc;exact List.pairwise_iff_getElem.1 hl.nd j i j1 i1 h1 _ h3 (List.mem_of_getElem? (hcy.at hk).1)
 ·rw[hc]at h1
  obtain rfl:=Option.some.inj h1;rw[(hcy.at (by omega)).1]at h3;have:=orb_inj hcy.nd (by omega) hk (Option.some.inj h3)
  omega
attribute [local irreducible] AKM CmpP Req OpP UnP RdP LdR StR MkR AppR AppN CpyR RowP SnR Bds SlS CallP CalP FinP pw LdM GetM SetM PutM MkM AppM SnM FlP CallR MpG MpS ApfP SrtP
end Go.Eng

namespace Go.Eng
open F
set_option maxHeartbeats 4000000
set_option maxRecDepth 8000
variable {L:Lib} {kB:List Int→ByteArray}
theorem trunc_le {v n A:Int} (hn:0≤n∧n≤62) (h1:v≤A) (h2 : -v≤A) : -A≤pw n*shiftS v n 3∧pw n*shiftS v n 3≤A:=by
 have hP:=pw_pos n;have e:=Int.mul_ediv_add_emod v (pw n);have r1:=Int.emod_nonneg v (show pw n≠0 by omega);have r2:=Int.emod_lt_of_pos v (show 0<pw n by omega);unfold shiftS;rw[if_pos ⟨hn.1,hn.2,by omega,by omega⟩];split
 ·rename_i h0
  subst h0;have:pw 0=1:=by unfold pw;rfl
  rw[this];omega
 ·split
  ·rename_i h
   rcases h with ⟨h,_⟩|⟨_,h3,h4⟩
   ·omega
   ·rw[Int.mul_add,Int.mul_one]
    have hneg:v/pw n<0:=Int.ediv_neg_of_neg_of_pos h3 (by omega);have:pw n*(v/pw n)≤pw n*(-1):=Int.mul_le_mul_of_nonneg_left (by omega) (by omega)
    omega
  ·rename_i h
   rcases Int.lt_or_le v 0 with h3|h3
   ·have:v%pw n=0:=by
     rcases Classical.em (v%pw n=0) with h4|h4
     ·exact h4
     ·exact absurd (.inr ⟨rfl,h3,h4⟩) h
    omega
   ·have:=Int.ediv_nonneg h3 (show 0≤pw n by omega)
    have:=Int.mul_nonneg (show 0≤pw n by omega) this
    omega
theorem trunc_lt {y k n:Int} (hn:0≤n∧n≤62) (hk : -(pw n-1)≤k∧k≤pw n-1) {Y:Int} (h0:0<Y) (h1:y≤Y) (h2 : -y≤Y) : -Y<shiftS (-(k*y)) n 3∧shiftS (-(k*y)) n 3<Y:=by
 have hP:=pw_pos n;have m1 : ∀ u w:Int,-(pw n-1)≤u→u≤pw n-1 → -Y≤w→w≤Y→u*w≤(pw n-1)*Y:=fun u w a b c d=>by
  rcases Int.le_total 0 u with hu|hu
  ·exact Int.le_trans (Int.mul_le_mul_of_nonneg_left d hu) (Int.mul_le_mul_of_nonneg_right b (by omega))
  ·have e1:u*w=(-u)*(-w):=by rw[Int.neg_mul_neg]
   rw[e1];exact Int.le_trans (Int.mul_le_mul_of_nonneg_left (by omega : -w≤Y) (by omega)) (Int.mul_le_mul_of_nonneg_right (by omega) (by omega))
 have a1:=m1 k y (by omega) (by omega) (by omega) (by omega);have a2:=m1 (-k) y (by omega) (by omega) (by omega) (by omega);rw[Int.neg_mul]at a2;obtain ⟨t1,t2⟩:=trunc_le (v := -(k*y)) (A:=(pw n-1)*Y) hn (by omega) (by omega);generalize shiftS (-(k*y)) n 3=t at *;rw[Int.sub_mul,Int.one_mul]at t1 t2;constructor
 ·rcases Int.lt_or_le (-Y) t with h|h
  ·exact h
  ·have:=Int.mul_le_mul_of_nonneg_left h (show 0≤pw n by omega)
   rw[Int.mul_neg]at this;omega
 ·rcases Int.lt_or_le t Y with h|h
  ·exact h
  ·have:=Int.mul_le_mul_of_nonneg_left h (show 0≤pw n by omega)
   omega
def dTr:Wd:=⟨10,0,3,1⟩
theorem dTr_ok:WV dTr:=by decide
theorem dTr_ft {v:Int} (h1 : -511≤v) (h2:v≤511):FT dTr v:=⟨dTr_ok,by show lowS dTr≤v;rw[show lowS dTr = -512 by decide +kernel];omega,by rw[show highS dTr=511 by decide +kernel];exact h2⟩
section
variable {c:Wd} {k:Int} (hc:WV c) (hk : -(pw c.f-1)≤k∧k≤pw c.f-1)
include hc hk
theorem tr_ft:FT c k∧FT c (-k):=by
 obtain ⟨e1,e2,e3,e4⟩:=low_high hc;have hc':=hc;unfold WV at hc';have:=pw_le (n:=c.f) (m:=c.b-1) (by omega)
 exact ⟨⟨hc,by omega,by omega⟩,⟨hc,by omega,by omega⟩⟩
theorem tr_step {y:Int} (hy : -511≤y∧y≤511) : ∃ z,fnx (formOneS [0] [k] dTr c) 0 [y]=[z]∧(y≠0→z.natAbs<y.natAbs)∧z.natAbs≤y.natAbs:=by
 have hc':=hc;unfold WV at hc';have hs:=(form_step (b:=[0]) (a:=[k]) dTr_ok hc (by simp) (by simp) (fun v hv=>by
  rw[List.mem_singleton.1 hv];obtain ⟨e1,e2,e3,e4⟩:=low_high hc;exact ⟨hc,by omega,by omega⟩) (fun v hv=>by rw[List.mem_singleton.1 hv];exact tr_ft hc hk) 0 [] [y] (dTr_ft (by omega) (by omega)) (by simp) (fun v hv=>by rw[List.mem_singleton.1 hv];exact dTr_ft hy.1 hy.2)).2.1
 have e0:stF [0] [k] [] [y]=[y]:=rfl;rw[e0]at hs;refine ⟨outF [0] [k] dTr c [0] [y],hs,?_⟩;have ed:dot [0] [0]-dot [k] [y] = -(k*y):=by simp [dot]
 have eo:outF [0] [k] dTr c [0] [y]=redS dTr (shiftS (-(k*y)) c.f 3):=by rw[outF,ed];rfl
 rw[eo];by_cases h0:y=0
 ·subst h0
  have:shiftS (-(k*0)) c.f 3=0:=by
   obtain ⟨t1,t2⟩:=trunc_le (v := -(k*0)) (n:=c.f) (A:=0) (by omega) (by omega) (by omega);have hP:=pw_pos c.f;rcases Int.mul_eq_zero.1 (show pw c.f*shiftS (-(k*0)) c.f 3=0 by omega) with h|h
   ·omega
   ·exact h
  rw[this,red_id (dTr_ft (by omega) (by omega))];exact ⟨fun h=>absurd rfl h,Nat.le_refl _⟩
 ·obtain ⟨t1,t2⟩:=trunc_lt (y:=y) (k:=k) (n:=c.f) (by omega) hk (Y:=(y.natAbs:Int)) (by omega) (by omega) (by omega)
  generalize shiftS (-(k*y)) c.f 3=t at *;rw[red_id (dTr_ft (by omega) (by omega))];exact ⟨fun _=>by omega,by omega⟩
theorem tr_it : ∀ (m:Nat) {y:Int},-511≤y∧y≤511 → ∃ z,itS (fnx (formOneS [0] [k] dTr c) 0) m [y]=[z]∧z.natAbs≤y.natAbs
 | 0,y,_=>⟨y,rfl,Nat.le_refl _⟩
 | m+1,y,hy=>by
  obtain ⟨z,h1,_,h3⟩:=tr_step hc hk hy;obtain ⟨u,h4,h5⟩:=tr_it m (y:=z) (by omega);exact ⟨u,by rw[itS,h1];exact h4,by omega⟩
theorem tr_list {b:Int} (hb:0≤b∧b≤511):CycList (fnx (formOneS [0] [k] dTr c) 0) (gnx (formOneS [0] [k] dTr c) 0) [b] [([[0]],[gnx (formOneS [0] [k] dTr c) 0 [0]])]:=by
 have h00:fnx (formOneS [0] [k] dTr c) 0 [0]=[0]:=by
  obtain ⟨z,h1,_,h3⟩:=tr_step hc hk (y:=0) (by omega);rw[h1,show z=0 by omega]
 refine CycList.of ?_ ?_ (by simp)
 ·intro d hd
  rw[List.mem_singleton.1 hd];refine ⟨[0],1,by omega,h00,by simp [orbS],rfl,rfl,?_,?_⟩
  ·intro t ht
   rw[show t=[0] by simpa [orbS] using ht];exact ⟨by omega,trivial⟩
  ·intro t ht
   rw[show t=[0] by simpa [orbS] using ht,cmpL_self];omega
 ·intro s hs
  match s,hs with
  | [y],⟨h,_⟩ =>
   by_cases h0:y=0
   ·subst h0
    exact .inl ⟨_,List.mem_cons_self,List.mem_cons_self⟩
   ·refine .inr fun n hn e => ?_
    obtain ⟨m,rfl⟩ : ∃ m,n=m+1:=⟨n-1,by omega⟩;obtain ⟨z,h1,h2,_⟩:=tr_step hc hk (y:=y) (by omega);obtain ⟨u,h4,h5⟩:=tr_it hc hk m (y:=z) (by have:=h2 h0;omega);rw[itS,h1,h4]at e;have e:u=y:=by simpa using e
    have:=h2 h0
    subst e;omega
end
attribute [local irreducible] AKM CmpP Req OpP UnP RdP LdR StR MkR AppR AppN CpyR RowP SnR Bds SlS CallP CalP FinP pw LdM GetM SetM PutM MkM AppM SnM FlP CallR MpG MpS ApfP SrtP
theorem ev_law31_Truncates (I:FixedLib L) (J:NetLib L) (W:WorldLib L) (R:RunGLib L) (N:LimGLib L) (D:DirectGLib L) (C:LawLTLib L) (Y:KeyOK L kB) (Z:SrtOK L) (ck a b:Int) (h1:InI ck) (h2:InI a) (h3:InI b) :
  Ev L 441 [.int .i64 ck,.int .i64 a,.int .i64 b] (.bool true):=by
 refine Ev.x C.law31_LimitcycleTruncates rfl rfl ?_;have hcw:=ev_world_Word W ck 4 8 0 h1 (by omega);obtain ⟨hc,c1,c2⟩:=word_ok (k:=ck) (least:=4) (most:=8) (above:=0) (by omega);generalize wordS ck 4 8 0=c at *;have hU:=ev_world_Unit W c hc;have hP:=pw_pos c.f;have hc':=hc;unfold WV at hc';have hPl:=pw_le (n:=c.f) (m:=8) (by omega);have hP8:pw 8=256:=by unfold pw;rfl
 have hB:=fun q=>ev_world_Below W (pw c.f-1) (by omega) [a] q 1 (by omega)
 have hb1:belowS (pw c.f-1) [a] 1=[toB (pw c.f-1) (atS [a] 0)]:=rfl;have hk:=with_range (v:=IntKind.i64.wrap (atS [a] 0+(pw c.f-1))) (m:=2*(pw c.f-1)+1) (by omega);have hk' : -(pw c.f-1)≤toB (pw c.f-1) (atS [a] 0)∧toB (pw c.f-1) (atS [a] 0)≤pw c.f-1:=by unfold toB;omega
 rw[hb1]at hB;generalize toB (pw c.f-1) (atS [a] 0)=k at *;have hF:=fun q q'=>ev_direct_FormOne I D [0] [k] q q' dTr c dTr_ok hc (by simp) (by simp) (fun v hv=>by
  rw[List.mem_singleton.1 hv];obtain ⟨e1,e2,e3,e4⟩:=low_high hc;exact ⟨hc,by omega,by omega⟩) (fun v hv=>by rw[List.mem_singleton.1 hv];exact tr_ft hc hk')
 have hnet:=form_net (b:=[0]) (a:=[k]) dTr_ok hc (by simp) (by simp) (fun v hv=>by
  rw[List.mem_singleton.1 hv];obtain ⟨e1,e2,e3,e4⟩:=low_high hc;exact ⟨hc,by omega,by omega⟩) (fun v hv=>by rw[List.mem_singleton.1 hv];exact tr_ft hc hk')
 have hWi:=ev_world_Within W b 300 h3 (by omega);have hw:=with_range (v:=b) (m:=300) (by omega);generalize withS b 300=x at *;have hli:=tr_list hc hk' (b:=x) (by omega);have hns:(formOneS [0] [k] dTr c).s=1:=rfl;have hnd:(formOneS [0] [k] dTr c).d=dTr:=rfl;have hV:=ev_ref22_Valid (formOneS [0] [k] dTr c) I J;rw[hnet]at hV;generalize formOneS [0] [k] dTr c=n at *;have hck:checkS n 0 [x]=0:=by
  unfold checkS;rw[if_pos hnet,if_pos (by rw[hns];rfl),if_pos (by simp;omega),hnd,if_pos (dTr_ft (by omega) (by omega)),if_pos (by simp only[wordsB,List.all_cons,List.all_nil,Bool.and_true,decide_eq_true_eq];exact dTr_ft (by omega) (by omega))];rw[show tooS [x] 1=false by simp only[tooS];rw[if_neg (by omega)]];rfl
 obtain ⟨v,hv,l,hcl,rfl⟩:=ev_Cycles I J N Y Z hck true;obtain rfl:=hcl.uniq hli;have i0:([([[0]],[gnx n 0 [0]])]:List (List (List Int) × List Int))[((0:Int)).toNat]? = some ([[0]],[gnx n 0 [0]]):=rfl;have i1:([[0]]:List (List Int))[((0:Int)).toNat]? = some [0]:=rfl;have hl1:([([[0]],[gnx n 0 [0]])]:List (List (List Int) × List Int)).length=1:=rfl;have hk1:([k]:List Int)[((0:Int)).toNat]? = some k:=rfl;generalize [([[0]],[gnx n 0 [0]])]=l at *;have hkn:=ev_law31_known I J N C.toLawLCLib Y Z;have s1:=fun q=>ev_ref21_SameInts I [0] [0] false q (by decide) (by decide)
 (repeat' ((first|(apply CmpP.go<;>intro hc<;>try omega)|(apply OpP.sub;omega)|apply LenP.go|(refine RdP.at (by assumption) ?_ rfl ?_;omega)|refine SnR.e1 rfl ?_|apply AKM.x|refine CallP.go (hcw) ?_|refine CallP.go (hU) ?_|refine CallP.go (hB _) ?_|refine CallP.go (hF _ _) ?_|refine CallP.go (hWi) ?_|refine CallP.go (hv) ?_|refine CallP.go (hkn) ?_|refine CallP.go (s1 _) ?_|refine CallP.go (hV) ?_)<;>conv=>whnf))
 all_goals first|exact absurd rfl hc|exact FinP.b (by decide)
end Go.Eng

namespace Go.Eng
open Go.Lib (itoa decDigits itoa_length_le)
open Go.RowKit
set_option maxHeartbeats 1000000
def keyL (s:List Int):List UInt8:=s.flatMap fun v=>itoa v++[32]
def keyB (s:List Int):ByteArray:=⟨(keyL s).toArray⟩
theorem keyL_snoc (s:List Int) (v:Int):keyL (s++[v])=keyL s++(itoa v++[32]):=by simp [keyL]
theorem keyL_len : ∀ (s:List Int),(∀ v∈s,InI v)→(keyL s).length≤22*s.length
 | [],_=>by simp [keyL]
 | v::s,h=>by
  have h1:=keyL_len s fun x hx=>h x (List.mem_cons_of_mem _ hx)
  have h2:=h v List.mem_cons_self;have h3:=itoa_length_le v h2.1 h2.2;simp only[keyL,List.flatMap_cons,List.length_append,List.length_cons,List.length_nil]at *;omega
theorem dd_small {u:Nat} (h:u<10):decDigits u=[UInt8.ofNat (48+u)]:=by rw[decDigits,dif_pos h]
theorem dd_big {u:Nat} (h : ¬ u<10):decDigits u=decDigits (u/10)++[UInt8.ofNat (48+u%10)]:=by rw[decDigits,dif_neg h]
theorem u8_inj {a b:Nat} (ha:a<10) (hb:b<10) (h:UInt8.ofNat (48+a)=UInt8.ofNat (48+b)):a=b:=by
 have:=congrArg UInt8.toNat h
 rw[UInt8.toNat_ofNat',UInt8.toNat_ofNat']at this;omega
theorem u8_ne {a b:Nat} (ha:a<10) (hb:b<48):UInt8.ofNat (48+a)≠UInt8.ofNat b:=fun h=>by
 have:=congrArg UInt8.toNat h
 rw[UInt8.toNat_ofNat',UInt8.toNat_ofNat']at this;omega
theorem dd_pos (u:Nat):0<(decDigits u).length:=by
 by_cases h:u<10
 ·rw[dd_small h];simp
 ·rw[dd_big h];simp
theorem dd_inj (u:Nat) : ∀ w:Nat,decDigits u=decDigits w→u=w:=by
 induction u using Nat.strongRecOn with
 | _ u ih =>
  intro w h;by_cases hu:u<10<;>by_cases hw:w<10
  ·rw[dd_small hu,dd_small hw]at h
   exact u8_inj hu hw (List.cons.inj h).1
  ·rw[dd_small hu,dd_big hw]at h
   have h1:=congrArg List.length h;have h2:=dd_pos (w/10);rw[List.length_append,List.length_singleton,List.length_singleton]at h1;omega
  ·rw[dd_big hu,dd_small hw]at h
   have h1:=congrArg List.length h;have h2:=dd_pos (u/10);rw[List.length_append,List.length_singleton,List.length_singleton]at h1;omega
  ·rw[dd_big hu,dd_big hw]at h
   obtain ⟨h1,h2⟩:=List.append_inj' h (by simp);have e1:=ih (u/10) (by omega) _ h1;have e2:=u8_inj (Nat.mod_lt _ (by omega)) (Nat.mod_lt _ (by omega)) (List.cons.inj h2).1;omega
theorem dd_mem (u:Nat) : ∀ x∈decDigits u,∃ a,a<10∧x=UInt8.ofNat (48+a):=by
 induction u using Nat.strongRecOn with
 | _ u ih =>
  intro x hx;by_cases hu:u<10
  ·rw[dd_small hu,List.mem_singleton]at hx
   exact ⟨u,hu,hx⟩
  ·rw[dd_big hu]at hx
   rcases List.mem_append.1 hx with h|h
   ·exact ih (u/10) (by omega) x h
   ·exact ⟨u%10,Nat.mod_lt _ (by omega),List.mem_singleton.1 h⟩
theorem itoa_mem (v:Int) : ∀ x∈itoa v,x≠32:=fun x hx=>by
 have key : ∀ u,x∈decDigits u→x≠32:=fun u h e=>by
  obtain ⟨a,ha,e2⟩:=dd_mem u x h;exact u8_ne ha (b:=32) (by omega) (e2.symm.trans e)
 unfold itoa at hx;split at hx
 ·rcases List.mem_cons.1 hx with h|h
  ·rw[h];decide
  ·exact key _ h
 ·exact key _ hx
theorem itoa_inj {v w:Int} (h:itoa v=itoa w):v=w:=by
 have key : ∀ (u:Nat) (l:List UInt8),decDigits u≠45::l:=fun u l e=>by
  obtain ⟨a,ha,e2⟩:=dd_mem u 45 (by rw[e];exact List.mem_cons_self);exact u8_ne ha (b:=45) (by omega) e2.symm
 unfold itoa at h;split at h<;>split at h
 ·have:=dd_inj _ _ (List.cons.inj h).2;omega
 ·exact absurd h.symm (key _ _)
 ·exact absurd h (key _ _)
 ·have:=dd_inj _ _ h;omega
theorem split_at {a b r t:List UInt8} (ha : ∀ x∈a,x≠32) (hb : ∀ x∈b,x≠32) (h:a++32::r=b++32::t):a=b∧r=t:=by
 induction a generalizing b with
 | nil=>cases b with
  | nil=>exact ⟨rfl,(List.cons.inj h).2⟩
  | cons y b=>exact absurd (List.cons.inj h).1.symm (hb y List.mem_cons_self)
 | cons x a ih=>cases b with
  | nil=>exact absurd (List.cons.inj h).1 (ha x List.mem_cons_self)
  | cons y b =>
   obtain ⟨h1,h2⟩:=List.cons.inj h;obtain ⟨h3,h4⟩:=ih (fun z hz=>ha z (List.mem_cons_of_mem _ hz)) (fun z hz=>hb z (List.mem_cons_of_mem _ hz)) h2;exact ⟨by rw[h1,h3],h4⟩
theorem keyL_cons (v:Int) (s:List Int):keyL (v::s)=itoa v++32::keyL s:=by simp [keyL]
theorem keyL_inj : ∀ {s t:List Int},keyL s=keyL t→s=t
 | [],[],_=>rfl
 | [],w::t,h=>by rw[keyL_cons]at h;simp [keyL]at h
 | v::s,[],h=>by rw[keyL_cons]at h;simp [keyL]at h
 | v::s,w::t,h=>by
  rw[keyL_cons,keyL_cons]at h;obtain ⟨h1,h2⟩:=split_at (itoa_mem v) (itoa_mem w) h;rw[itoa_inj h1,keyL_inj h2]
theorem keyB_inj {s t:List Int} (h:keyB s=keyB t):s=t:=by
 refine keyL_inj ?_;have h:(keyL s).toArray=(keyL t).toArray:=congrArg ByteArray.data h;simpa using h
theorem keyB_size (s:List Int) (h:OkS s):(keyB s).size≤100000:=by
 have h1:=keyL_len s h.rng;have h2:=h.len;show (keyL s).toArray.size≤100000;rw[List.size_toArray];omega
open Classical in
noncomputable def extK (f:Nat) (vs:List AV):Option AV:=if h:f=432 ∧ ∃ s,OkS s ∧ ∃ q,vs=[.sl q (s.map encInt)] then some (.con (.string (keyB h.2.choose))) else none
theorem encInt_inj : ∀ {s t:List Int},s.map encInt=t.map encInt→s=t
 | [],[],_=>rfl
 | v::s,w::t,h=>by
  simp only[List.map_cons,List.cons.injEq,AV.int.injEq,true_and,and_true]at h;rw[h.1,encInt_inj h.2]
theorem extK_some {f:Nat} {vs:List AV} {r:AV} (h:extK f vs=some r):f=432 ∧ ∃ s,OkS s∧(∃ q,vs=[.sl q (s.map encInt)])∧r = .con (.string (keyB s)):=by
 unfold extK at h;split at h
 ·rename_i hx
  obtain rfl:=Option.some.inj h;exact ⟨hx.1,_,hx.2.choose_spec.1,hx.2.choose_spec.2,rfl⟩
 ·cases h
theorem extK_at (q:Bool) {s:List Int} (hs:OkS s):extK 432 [.sl q (s.map encInt)]=some (.con (.string (keyB s))):=by
 have hx:(432:Nat)=432 ∧ ∃ t,OkS t ∧ ∃ q',[AV.sl q (s.map encInt)]=[.sl q' (t.map encInt)]:=⟨rfl,s,hs,q,rfl⟩;unfold extK;rw[dif_pos hx];obtain ⟨_,q',e⟩:=hx.2.choose_spec;exact congrArg (fun t=>some (AV.con (.string (keyB t)))) (encInt_inj (AV.sl.inj (List.cons.inj e).1).2).symm
open Classical in
noncomputable def cmpK (L0:Lib) (f:Nat) (vs:List AV):Option AV:=if h:f=435 ∧ ∃ r,Ev L0 f vs r then some h.2.choose else none
theorem cmpK_some {L0:Lib} {f:Nat} {vs:List AV} {r:AV} (h:cmpK L0 f vs=some r):f=435∧Ev L0 f vs r:=by
 unfold cmpK at h;split at h
 ·rename_i hx
  obtain rfl:=Option.some.inj h;exact ⟨hx.1,hx.2.choose_spec⟩
 ·cases h
theorem cmpK_at {L0:Lib} {vs:List AV} {r:AV} (h:Ev L0 435 vs r):cmpK L0 435 vs=some r:=by
 have hx:(435:Nat)=435 ∧ ∃ r,Ev L0 435 vs r:=⟨rfl,r,h⟩;unfold cmpK;rw[dif_pos hx];exact congrArg some (hx.2.choose_spec.det h)
def srtK (f:Nat):Option Nat:=if f=434 then some 2 else none
noncomputable def LibK (fn:Nat→Option AFn) (num:Nat→Nat):Lib:={ fn:=fn,num:=num,ext:=extK,cmp:=cmpK { fn:=fn,num:=num },srts:=srtK }
theorem keyOK_K {fn:Nat→Option AFn} {num:Nat→Nat} (h:fn 432=none):KeyOK (LibK fn num) keyB:=⟨h,fun q s hs=>extK_at q hs,fun s t _ _ e=>keyB_inj e,keyB_size⟩
theorem srtOK_K {fn:Nat→Option AFn} {num:Nat→Nat} (N:F.LimGLib { fn:=fn,num:=num }) (h:num 435=F.kn435):SrtOK (LibK fn num):=by
 refine ⟨rfl,h,fun c d s t h1 h2 h3 h4 => ?_⟩;exact cmpK_at (ev_Cycles_1 N c d s t h1 h2 (by omega) (by omega))
def KeyAt (P:Program) (n:Nat) (I:Keep):Prop:=(∀ (us:Array Value) (w:World),(callFunc n us).run P w = .ok (.enter n us) w) ∧
 ∀ (W:World) (xa:Option Addr) (xb xo cap:Nat) (s:List Int),I.ok W→(0<s.length→xa=some ⟨xb,xo,none⟩)→(∀ i v,s[i]? = some v→W.cell? ⟨xb,xo+i,none⟩=some (.int .i64 v))→OkS s →
  Calls P n #[.slice xa s.length cap] W fun e w'=>e = .returned (.string (keyB s))∧Below W.heap.size W w'
theorem progX_K {fn:Nat→Option AFn} {num:Nat→Nat} {P:Program} {I:Keep} (hP:ProgOK P num { fn:=fn,num:=num }) (hI : ¬ I.D) (hk:KeyAt P (num 432) I) (hs:SortsAt P (num 434) 2):ProgX I P num (LibK fn num):=by
 refine ⟨⟨hP.1,rfl⟩,fun f vs r _ h us w => ?_,fun f vs r _ h hc S w us hw hl ha => ?_,fun f vs r h => ?_,fun fs k h => ?_⟩
 ·obtain ⟨rfl,_⟩:=extK_some h
  exact hk.1 us w
 ·obtain ⟨rfl,s,hok,⟨q,rfl⟩,rfl⟩:=extK_some h
  obtain ⟨u,rfl⟩ : ∃ u,us=[u]:=by
   match us,hl with
   | [u],_=>exact ⟨u,rfl⟩
  have h0:=ha 0 _ u rfl rfl;have key : ∃ xa xb xo cap,u = .slice xa s.length cap∧(0<s.length→xa=some ⟨xb,xo,none⟩)∧(∀ i v,s[i]? = some v→w.cell? ⟨xb,xo+i,none⟩=some (.int .i64 v)):=by
   generalize hes:s.map encInt=es at h0;have hlen:s.length=es.length:=by rw[←hes,List.length_map]
   cases h0 with
   | one h0=>cases h0 with
    | rd h0=>cases h0 with
     | sl0 l a cap =>
      have:s=[]:=List.eq_nil_of_length_eq_zero (by rw[hlen];rfl)
      subst this;exact ⟨a,0,0,cap,rfl,fun h=>absurd h (by simp),fun i v h=>by simp at h⟩
     | sl l es b o esz cap u hne hp hR hcap hz hcl hrd =>
      have hat : ∀ i v,s[i]? = some v→es[i]? = some [AV.int .i64 v]:=fun i v h=>by rw[←hes,List.getElem?_map,h];rfl
      refine ⟨_,b,o,cap,by rw[hlen],fun _=>rfl,fun i v h => ?_⟩;have h1:=hat i v h;have h2:=hz _ (List.mem_of_getElem? h1);have h2:1=esz:=h2;subst h2;have h3:=hcl i _ h1 0 _ rfl;have h4:=hrd i _ h1 0 _ rfl;rw[Nat.mul_one,Nat.add_zero]at h3;rw[h3];generalize u i 0=y at h4;cases h4;rfl
  obtain ⟨xa,xb,xo,cap,rfl,k1,k2⟩:=key;refine (hk.2 w xa xb xo cap s hw k1 k2 hok).mono fun e w' ⟨he,hb⟩=>⟨_,he,⟨hb,fun h=>absurd h hI⟩,.ca (.one (.rd (.str _))),hc⟩
 ·obtain ⟨rfl,n,hn⟩:=cmpK_some h
  have hc:=calls_ok (ProgX.of (I:=Keep.triv True) hP (fun _ _=>rfl) (fun _ _=>rfl) (fun _=>rfl)) n;refine ⟨hc.enterP _ _ _ hn,fun S w us hl ha => ?_⟩;exact (hc.pure _ _ _ hn S w us trivial hl ha).mono fun e w' ⟨u,h1,h2,h3,_⟩=>⟨u,h1,h2,h3⟩
 ·change srtK fs=some k at h
  unfold srtK at h;split at h
  ·rename_i e
   obtain rfl:=Option.some.inj h;subst e;exact hs
  ·cases h
end Go.Eng

namespace Go.Eng
open Go.ChangeShapes Go.WideShapes Go.ChangeAt Go.RowKit
inductive Ty where
 | int (k:IntKind)
 | bool
 | sl (e:Ty)
 | nil
 | cons (a r:Ty)
def Ty.cells:Ty→Nat
 | .int _=>1 | .bool=>1 | .sl _=>1
 | .nil=>0
 | .cons a r=>a.cells+r.cells
def HasF (l:Bool):Ty→List AV→Prop
 | .int k,cs => ∃ n,cs=[.int k n]∧(Lit.int k n).wf=true
 | .bool,cs => ∃ b,cs=[.bool b]
 | .sl e,cs => ∃ es,cs=[.sl l es]∧es.length≤maxLen ∧ ∀ x∈es,HasF l e x
 | .nil,cs=>cs=[]
 | .cons a r,cs => ∃ x y,cs=x++y∧HasF l a x∧HasF l r y
abbrev HasL:=HasF true
theorem HasF.len {l:Bool} : ∀ {ty:Ty} {cs:List AV},HasF l ty cs→cs.length=ty.cells
 | .int _,cs,h=>by obtain ⟨n,rfl,_⟩:=h;rfl
 | .bool,cs,h=>by obtain ⟨n,rfl⟩:=h;rfl
 | .sl _,cs,h=>by obtain ⟨n,rfl,_⟩:=h;rfl
 | .nil,cs,h=>by rw[show cs=[] from h];rfl
 | .cons a r,cs,h=>by obtain ⟨x,y,rfl,h1,h2⟩:=h;simp [Ty.cells,HasF.len h1,HasF.len h2]
def okTy (P:Program):Nat→TypeId→Ty→Bool
 | 0,_,_=>false
 | n+1,t,ty=>match P.underlying t,ty with
  | some (.int k),.int k'=>decide (k=k')
  | some .bool,.bool=>true
  | some (.slice e),.sl ty'=>okTy P n e ty'&&(P.cellsOf e == ty'.cells&&decide (0<ty'.cells))
  | some (.struct fs),ty=>go (okTy P n) fs.toList 0 ty&&P.cellsOf t == ty.cells
  | _,_=>false
where
 go (ok:TypeId→Ty→Bool):List Field→Nat→Ty→Bool
  | [],_,.nil=>true
  | f::fs,off,.cons a r=>(f.offset == off&&(ok f.type a&&P.cellsOf f.type == a.cells))&&go ok fs (off+a.cells) r
  | _,_,_=>false
section
variable {H:Type} {enc:TypeId × Value→H} {P:Program} {w:World} {base:Nat} {spare:Nat→Bool} {held:Bool} {R:Bool→Nat→Prop}
def RdL (w:World) (R:Bool→Nat→Prop) (as:List AV) (cs:List Value):Prop:=as.length=cs.length ∧ ∀ (j:Nat) (a:AV) (c:Value),as[j]? = some a→cs[j]? = some c→Rd w R a c
theorem RdL.one {a:AV} {c:Value} (h:Rd w R a c):RdL w R [a] [c]:=by
 refine ⟨rfl,fun j a' c' h1 h2 => ?_⟩;cases j with
 | zero=>simp at h1 h2;subst h1 h2;exact h
 | succ j=>simp at h1
theorem RdL.append {as bs:List AV} {cs ds:List Value} (h1:RdL w R as cs) (h2:RdL w R bs ds):RdL w R (as++bs) (cs++ds):=by
 refine ⟨by simp [h1.1,h2.1],fun j a c ha hc => ?_⟩;by_cases hj:j<as.length
 ·rw[List.getElem?_append_left hj]at ha
  rw[List.getElem?_append_left (by rw[←h1.1];exact hj)]at hc;exact h1.2 j a c ha hc
 ·rw[List.getElem?_append_right (by omega)]at ha
  rw[List.getElem?_append_right (by rw[←h1.1];omega),←h1.1]at hc;exact h2.2 _ a c ha hc
theorem add_off (a:Addr) (i:Nat) (h:a.spot=none):a.add i=⟨a.block,a.off+i,none⟩:=by
 obtain ⟨b,o,s⟩:=a;simp only at h;subst h;exact add_none b o i
theorem open_go {l:Bool} (hR : ∀ b,b<w.heap.size→R l b) (m:Nat) (ih : ∀ (ty:Ty) (t:TypeId) (cs:List Value) (fuel:Nat) (x:DataW H × List MemPlace),okTy P m t ty=true→DataW.trod enc P w base spare held fuel t cs=some x → ∃ as,HasF l ty as∧RdL w R as cs)
  (n:Nat) (cs:List Value) : ∀ (fs:List Field) (off:Nat) (ty:Ty),okTy.go P (okTy P m) fs off ty=true→(∀ f∈fs,∃ y,DataW.trod enc P w base spare held n f.type ((cs.drop f.offset).take (P.cellsOf f.type))=some y)→off+ty.cells=cs.length → ∃ as,HasF l ty as∧RdL w R as (cs.drop off)
 | [],off,ty,hok,_,hl=>by
  cases ty<;>simp only[okTy.go,Bool.false_eq_true]at hok;simp only[Ty.cells]at hl;exact ⟨[],rfl,by rw[List.drop_of_length_le (by omega)];exact ⟨rfl,fun j a c h=>by simp at h⟩⟩
 | f::fs,off,ty,hok,hf,hl=>by
  cases ty<;>simp only[okTy.go,Bool.false_eq_true,Bool.and_eq_true,beq_iff_eq]at hok;rename_i a r;obtain ⟨⟨h1,h2,h3⟩,h4⟩:=hok;simp only[Ty.cells]at hl;obtain ⟨y,hy⟩:=hf f List.mem_cons_self;rw[h1,h3]at hy;obtain ⟨as1,g1,g2⟩:=ih a f.type _ n y h2 hy;obtain ⟨as2,g3,g4⟩:=open_go hR m ih n cs fs (off+a.cells) r h4 (fun f' h'=>hf f' (List.mem_cons_of_mem _ h')) (by omega);refine ⟨as1++as2,⟨as1,as2,rfl,g1,g3⟩,?_⟩;have:=g2.append g4
  rwa [show (cs.drop off).take a.cells++cs.drop (off+a.cells)=cs.drop off by rw[←List.drop_drop,List.take_append_drop]]at this
theorem open_any {l:Bool} (hR : ∀ b,b<w.heap.size→R l b) : ∀ (m:Nat) (ty:Ty) (t:TypeId) (cs:List Value) (fuel:Nat) (x:DataW H × List MemPlace),okTy P m t ty=true→DataW.trod enc P w base spare held fuel t cs=some x → ∃ as,HasF l ty as∧RdL w R as cs
 | 0,_,_,_,_,_,h,_=>by simp [okTy]at h
 | m+1,ty,t,cs,fuel,x,hok,h=>by
  have ih:=open_any hR m;simp only[okTy]at hok;split at hok
  ·rename_i k k' hu
   obtain rfl:k=k':=by simpa using hok
   obtain ⟨n,rfl,_,hw⟩:=DataW.trod_int hu h;exact ⟨[.int k n],⟨n,rfl,hw⟩,RdL.one (.int k n)⟩
  ·rename_i hu
   cases fuel with
   | zero=>simp [DataW.trod]at h
   | succ fuel =>
    unfold DataW.trod at h;rw[hu]at h;split at h<;>simp_all
    exact ⟨_,⟨_,rfl⟩,RdL.one (.bool _)⟩
  ·rename_i e ty' hu
   simp only[Bool.and_eq_true,beq_iff_eq,decide_eq_true_eq]at hok;obtain ⟨h1,h2,h3⟩:=hok;rcases DataW.trod_slice hu h with ⟨rfl,_⟩|⟨a,len,cap,elems,rest,n,_,rfl,_,hb,hl,hm,hlen,hel,_,_⟩
   ·exact ⟨[.sl l []],⟨[],rfl,by simp,by simp⟩,RdL.one (.sl0 l none 0)⟩
   ·have each : ∀ i,i<len → ∃ as cs',HasF l ty' as∧RdL w R as cs'∧cs'.length=ty'.cells ∧ ∀ j,j<ty'.cells→w.cell? ((a.add (i*ty'.cells)).add j)=cs'[j]? := by
     intro i hi;have:=hel i hi
     rw[h2,List.getElem?_eq_getElem (by omega),Option.bind_eq_some_iff]at this;obtain ⟨cs',hc,ht⟩:=this;obtain ⟨as,g1,g2⟩:=ih ty' e cs' n _ h1 ht;obtain ⟨_,q1,q2⟩:=World.cells?_some hc;exact ⟨as,cs',g1,g2,q1,q2⟩
    by_cases h0:len=0
    ·subst h0
     exact ⟨[.sl l []],⟨[],rfl,by simp,by simp⟩,RdL.one (.sl0 l (some a) cap)⟩
    ·have hspot:a.spot=none:=by
      obtain ⟨as,cs',_,_,q1,q2⟩:=each 0 (by omega);have:=q2 0 h3
      rw[List.getElem?_eq_getElem (by omega)]at this;simpa [Addr.add] using World.cell?_spot this
     have hblk:a.block<w.heap.size:=by
      obtain ⟨as,cs',_,_,q1,q2⟩:=each 0 (by omega);have:=q2 0 h3
      rw[List.getElem?_eq_getElem (by omega)]at this;simpa [Addr.add] using cell_lt this
     have pick : ∃ f:Nat→List AV × List Value,∀ i,i<len→HasF l ty' (f i).1∧RdL w R (f i).1 (f i).2∧(f i).2.length=ty'.cells ∧ ∀ j,j<ty'.cells→w.cell? ((a.add (i*ty'.cells)).add j)=(f i).2[j]? := by
      refine ⟨fun i=>if hi:i<len then (Classical.choose (each i hi),Classical.choose (Classical.choose_spec (each i hi))) else ([],[]),fun i hi => ?_⟩;simp only[hi,dif_pos];exact Classical.choose_spec (Classical.choose_spec (each i hi))
     obtain ⟨f,hf⟩:=pick;have hget : ∀ i e',((List.range len).map fun i=>(f i).1)[i]? = some e'→i<len∧e'=(f i).1:=by
      intro i e' he;rw[List.getElem?_map]at he;by_cases hi:i<len
      ·rw[List.getElem?_range hi]at he
       simp at he;exact ⟨hi,he.symm⟩
      ·rw[List.getElem?_eq_none (by simpa using hi)]at he
       cases he
     refine ⟨[.sl l ((List.range len).map fun i=>(f i).1)],⟨_,rfl,by simp;omega,fun x hx => ?_⟩,RdL.one ?_⟩
     ·obtain ⟨i,hi,rfl⟩:=List.mem_map.1 hx
      exact (hf i (List.mem_range.1 hi)).1
     ·obtain ⟨ab,ao,as⟩:=a
      simp only at hspot;subst hspot;have hlen':((List.range len).map fun i=>(f i).1).length=len:=by simp
      have:=Rd.sl (w:=w) (R:=R) l ((List.range len).map fun i=>(f i).1) ab ao ty'.cells cap (fun i j=>((f i).2[j]?).getD default) (by intro e;have:=congrArg List.length e;simp at this;omega) h3 (hR ab hblk) (by rw[hlen'];exact hl)
       (fun e' he=>by
        obtain ⟨i,hi,rfl⟩:=List.mem_map.1 he;exact (hf i (List.mem_range.1 hi)).1.len)
       (fun i e' he j c hc=>by
        obtain ⟨hi,rfl⟩:=hget i e' he;obtain ⟨g1,g2,g3,g4⟩:=hf i hi;have hj:j<ty'.cells:=by
         have:=(List.getElem?_eq_some_iff.1 hc).1
         rwa [g1.len]at this
        have h5:=g4 j hj;rw[add_off ⟨ab,ao,none⟩ (i*ty'.cells) rfl,add_off _ _ rfl]at h5;simp only at h5;rw[show ao+(i*ty'.cells+j)=ao+i*ty'.cells+j by omega,h5,List.getElem?_eq_getElem (by omega)];rfl)
       (fun i e' he j c hc=>by
        obtain ⟨hi,rfl⟩:=hget i e' he;obtain ⟨g1,g2,g3,g4⟩:=hf i hi;have hj:j<ty'.cells:=by
         have:=(List.getElem?_eq_some_iff.1 hc).1
         rwa [g1.len]at this
        have h6:(f i).2[j]? = some ((f i).2[j]'(by omega)):=List.getElem?_eq_getElem _;rw[h6];exact g2.2 j c _ hc h6)
      rwa [hlen']at this
  ·rename_i fs hu
   simp only[Bool.and_eq_true,beq_iff_eq]at hok;obtain ⟨h1,h2⟩:=hok;obtain ⟨xs,n,_,_,hl,hlen,hf⟩:=DataW.trod_struct hu h;have:=open_go hR m ih n cs fs.toList 0 _ h1 (fun f hf'=>by
    obtain ⟨i,hi,rfl⟩:=List.getElem_of_mem hf';have h5:=hf i fs.toList[i] (by simp);rw[h5,List.getElem?_eq_getElem (by simpa [hlen] using hi)];exact ⟨_,rfl⟩) (by rw[hl,h2];omega)
   simpa using this
  ·exact absurd hok (by simp)
theorem open_cell {S:Nat→Prop} {ty:Ty} {t:TypeId} {v:Value} {d:DataW H} {ps:List MemPlace} {m:Nat} (hok:okTy P m t ty=true) (hv:v.cells.toList=[v]) (h:DataW.Trod enc P w base spare held t v d ps) :
  ∃ a,HasL ty [a]∧CA w.heap.size S ⟨fun _ _=>none,Own.emp,w⟩ a v:=by
 obtain ⟨fuel,hf⟩:=h;rw[hv]at hf;obtain ⟨as,h1,h2⟩:=open_any (R:=safe w.heap.size S ⟨fun _ _=>none,Own.emp,w⟩) (fun b hb=>Or.inr (Or.inr ⟨rfl,hb⟩)) m ty t [v] fuel _ hok hf;obtain ⟨a,rfl⟩ : ∃ a,as=[a]:=by
  have:=h2.1
  match as,this with
  | [a],_=>exact ⟨a,rfl⟩
 exact ⟨a,h1,.one (.rd (h2.2 0 a v rfl rfl))⟩
end
theorem args_nil {B:Nat} {S:Nat→Prop} {m:M} : ∀ (j:Nat) (c:AV) (v:Value),([]:List AV)[j]? = some c→([]:List Value)[j]? = some v→CA B S m c v:=fun j c v h=>by simp at h
theorem args_cons {B:Nat} {S:Nat→Prop} {m:M} {a:AV} {u:Value} {as:List AV} {us:List Value} (h:CA B S m a u) (hr : ∀ (j:Nat) (c:AV) (v:Value),as[j]? = some c→us[j]? = some v→CA B S m c v) :
  ∀ (j:Nat) (c:AV) (v:Value),(a::as)[j]? = some c→(u::us)[j]? = some v→CA B S m c v
 | 0,c,v,h1,h2=>by simp at h1 h2;subst h1 h2;exact h
 | j+1,c,v,h1,h2=>hr j c v (by simpa using h1) (by simpa using h2)
theorem law_callsX {I:Keep} {P:Program} {num:Nat→Nat} {L:Lib} (hP:ProgX I P num L) {f:Nat} {vs:List AV} (h:Ev L f vs (.bool true)) {S:Nat→Prop} {w:World} {us:List Value} (hw:I.ok w) (hl:vs.length=us.length)
  (ha : ∀ (j:Nat) (c:AV) (v:Value),vs[j]? = some c→us[j]? = some v→CA w.heap.size S ⟨fun _ _=>none,Own.emp,w⟩ c v) :
  Calls P (num f) us.toArray w fun e w'=>e = .returned (.bool true)∧Below w.heap.size w w':=by
 obtain ⟨n,hn⟩:=h;refine ((calls_ok hP n).pure f vs _ hn S w us hw hl ha).mono ?_;rintro e w' ⟨u,rfl,hb,hcv,_⟩
 refine ⟨?_,hb.toBelow⟩;cases hcv with
 | ca hca=>cases hca with
  | one hcc=>cases hcc with
   | rd hrd=>cases hrd;rfl
end Go.Eng

namespace Go.Eng
abbrev tI:Ty := .int .i64
theorem wf_InI {n:Int} (h:(Lit.int .i64 n).wf=true):InI n:=by
 simp only[Lit.wf,Bool.and_eq_true,decide_eq_true_eq]at h;have h1:IntKind.i64.min = -9223372036854775808:=rfl;have h2:IntKind.i64.max=9223372036854775807:=rfl;rw[h1,h2]at h;unfold InI;constructor<;>omega
theorem has_iI {cs:List AV} (h:HasL tI cs) : ∃ n,cs=encInt n∧InI n:=by obtain ⟨n,rfl,hw⟩:=h;exact ⟨n,rfl,wf_InI hw⟩
end Go.Eng
