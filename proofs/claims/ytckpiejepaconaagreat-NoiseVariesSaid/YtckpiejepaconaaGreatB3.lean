/-
  Steps of arithmetic: powers of 2, shifts, masks, divisions.
-/
import Derived.Test.YtckpiejepaconaaGreatB2
import Derived.Test.YtckpiejepaconaaGreatB1
set_option linter.unusedSimpArgs false
set_option linter.unusedVariables false
set_option linter.unnecessarySimpa false
set_option maxHeartbeats 4000000
open Bool renaming and_eq_true->ua,true_and->Ca,false_and->xb,or_false->Kc
open Function renaming comp->Ac
open Int renaming toNat_natCast->vb,emod_lt_of_pos->Hb,emod_nonneg->zc,dvd_iff_emod_eq_zero->nc
open List renaming map_cons->ya,all_cons->qa,mapM_cons->oa,getElem?_set_self->ja,length_map->ga,getElem?_set_ne->ea,getElem?_eq_none->Ra,map_congr_left->Pa,getElem?_map->Ma,getElem?_append_right->La,ext_getElem?->Ka,getElem?_append_left->Ja,length_cons->Ia,replicate->Fa,length_nil->Ea,map_nil->Da,map_map->zb,mem_cons->ub,mem_cons_of_mem->ob,range->nb,mem_cons_self->fb,map_take->Rb,map_drop->Pb,getElem?_cons_zero->Ob,mem_map->Nb,drop_of_length_le->Mb,drop_zero->Kb,any_cons->Jb,all_eq_true->Eb,nil_append->Db,map_append->Cb,cons.injEq->Ab,take_zero->yc,getElem?_cons_succ->oc,map_set->kc,mem_of_mem_take->fc,mem_of_mem_drop->ec,replicate_succ->Rc,take_add_one->Pc,length_range->Oc,mapM->Nc,cons_append->Mc,all_nil->Jc,map_id->Ec
open Nat renaming beq->za,zero_add->Oa,le_refl->Na,lt_of_lt_of_le->Ha,le_of_ble_eq_true->Ba,beq_refl->yb,ble->qb,lt_trichotomy->eb,blt->db,eq_of_beq_eq_true->Lb,lt_irrefl->Ib,mod_two_eq_zero_or_one->xc,shiftLeft->wc,and_one_is_mod->Qc,shiftRight->Lc,sub_self->Ic,sub->Hc,lor->Gc,land->Cc
open Option renaming some.injEq->xa,map_some->va,some.inj->sa,getD_some->Fb
open Prod renaming mk.injEq->Qa,ext->Dc
namespace Go.c6
def pw (n:Int):Int:=2^n.toNat
theorem HF (n:Int):1<=pw n:=by
 have:0<pw n:=Int.pow_pos Y'
 omega
theorem NL {n m:Int} (h:n<=m):pw n<=pw m:=by
 unfold pw;have h':n.toNat<=m.toNat:=O'
 have h2:=Nat.pow_le_pow_right (n:=2) Y' h';have h3:((2^n.toNat:Nat):Int)<=((2^m.toNat:Nat):Int):=by exact_mod_cast h2
 simpa using h3
theorem pQ {n:Int} (h:n<=62):pw n<=4611686018427387904:=NL (m:=62) h
theorem AnL {a:Int} (h:0<=a) (h':a<=9223372036854775807):IntKind.i64.wrap a=a:=IntWalk.i64_in _ ⟨O',h'⟩
theorem AmB {k2:IntKind} {n:Int} (h:0<=n/\n<=62):DP .shl .i64 1 k2 n=some (.int .i64 (pw n)):=by
 have h1:=pQ h.2;have h2:=HF n;have e:(1:Int)*2^(min n.toNat IntKind.i64.bits)=pw n:=by
  have:min n.toNat IntKind.i64.bits=n.toNat:=by simp only[IntKind.bits];omega
  rw[this,Int.one_mul];rfl
 simp only[DP];rw[if_neg O',e,AnL O' O']
theorem AmC {k2:IntKind} {a n:Int} (h:0<=n/\n<=63):DP .shr .i64 a k2 n=some (.int .i64 (a/pw n)):=by
 have h2:=HF n;have e:(2:Int)^(min n.toNat IntKind.i64.bits)=pw n:=by
  have:min n.toNat IntKind.i64.bits=n.toNat:=by simp only[IntKind.bits];omega
  rw[this];rfl
 simp only[DP];rw[if_neg O',e,Int.fdiv_eq_ediv_of_nonneg _ O']
theorem Yl {a m:Int} (hm:0<m):a.tmod m=if 0<=a\/a%m=0 then a%m else a%m-m:=by
 have h:=Int.tmod_eq_emod (a:=a) (b:=m);rw[h];have hd:m ∣ a↔a%m=0:=nc;by_cases h0:0<=a\/a%m=0
 ·rw[if_pos h0,if_pos (by rcases h0 with h0|h0;exact Or.inl h0;exact Or.inr (hd.2 h0))];omega
 ·rw[if_neg h0,if_neg (λ h=>h0 (h.imp id hd.1))]
  have:(m.natAbs:Int)=m:=O'
  omega
theorem Yi {a m:Int} (hm:0<m):a.tdiv m=if 0<=a\/a%m=0 then a/m else a/m+1:=by
 have h:=Int.tdiv_eq_ediv (a:=a) (b:=m);rw[h];have hd:m ∣ a↔a%m=0:=nc;by_cases h0:0<=a\/a%m=0
 ·rw[if_pos h0,if_pos (by rcases h0 with h0|h0;exact Or.inl h0;exact Or.inr (hd.2 h0))];omega
 ·rw[if_neg h0,if_neg (λ h=>h0 (h.imp id hd.1)),Int.sign_eq_one_of_pos hm]
theorem Ag8 {a m:Int} (hm:1<=m) (h : -9223372036854775808<=a/\a<=9223372036854775807) : -9223372036854775808<=a/m/\a/m<=9223372036854775807:=by
 constructor
 ·rw[Int.le_ediv_iff_mul_le O']
  have:=Int.mul_le_mul_of_nonpos_left (a := -9223372036854775808) (b:=m) (c:=1) O' hm
  omega
 ·have:a/m<9223372036854775808:=by
   rw[Int.ediv_lt_iff_lt_mul O'];have:=Int.mul_le_mul_of_nonneg_left (c:=9223372036854775808) (a:=1) (b:=m) hm O'
   omega
  omega
section
variable {L:Lib} {k:List It} {tm:Tm} {own:AJ} {Q:St->Prop} {l:List AI} {b7:N'} {d:Nat} {x y:AU} {a b n p:Int} {k2:IntKind}
end
end Go.c6
namespace Go.c6
theorem ZC (ts:N') (j:Nat) : ∀ tm:Tm,e9 (af tm ts) j=if ts.contains j then .any else e9 tm j
 | []=>by simp [Ana,Ane]
 | (i,u)::r=>by
  rw[Am9];by_cases h:ts.contains i=true
  ·rw[if_pos h,ZC ts j r,cG]
   by_cases h2:j=i
   ·subst h2;rw[if_pos h,if_pos h]
   ·rw[if_neg h2]
  ·rw[if_neg h,cG,cG,ZC ts j r]
   by_cases h2:j=i
   ·subst h2;rw[if_pos rfl,if_pos rfl,if_neg h]
   ·rw[if_neg h2,if_neg h2]
def Q3 (j:Nat):N'->Bool
 | []=>false
 | i::r=>bif za j i then true else Q3 j r
abbrev C0 (n:Int):u_:=[.int .i64 n]
section
variable {L:Lib} {k:List It} {tm:Tm} {own:AJ} {Q:St->Prop} {l:List AI} {b7:N'} {d:Nat} {x i:AU} {kd:IntKind} {a:Int} {q:Bool} {α:Type} {es:List α} {enc:α->u_} {z:Nat}
end
end Go.c6

namespace Go.c6
inductive BF where
 | bx (cs:u_)
 | rw (z:Nat) (es:o_)
 | bs (z:Nat) (es:o_)
 | mx (rows:List (P'))
 | hx (i:Nat) (v:AV) (rows:List (P'))
 | vw (w:N') (rows:List (P'))
abbrev Mem:=List (Nat × Nat × BF)
def b9:Mem->Nat->Option (Nat × BF)
 | [],_=>none
 | (k,s,c)::r,j=>bif za j k then some (s,c) else b9 r j
def a9 (M:Mem) (k t:Nat):Option BF:=match b9 M k with
 | none=>none
 | some (_,c)=>match t with
  | 0=>some c
  | i+1=>match c with
   | .mx rows=>match rows[i]? with
    | some (some (z,es))=>some (.rw z es)
    | _=>none
   | .hx _ _ rows=>match rows[i]? with
    | some (some (z,es))=>some (.rw z es)
    | _=>none
   | .vw _ rows=>match rows[i]? with
    | some (some (z,es))=>some (.rw z es)
    | _=>none
   | _=>none
def o6 (j:Nat):Mem->Mem
 | []=>[]
 | (k,s,c)::r=>bif za j k then o6 j r else (k,s,c)::o6 j r
def tg:Tm->Nat->AV
 | [],_ => .any
 | (i,v)::r,j=>bif za j i then v else tg r j
def bit (m i:Nat):Bool:=za (Cc (Lc m i) 1) 1
def mask:Nat->N'->Nat
 | m,[]=>m
 | m,t::ts=>mask (Gc m (wc 1 t)) ts
def ym (m:Nat):Tm->Tm
 | []=>[]
 | (i,v)::r=>bif bit m i then ym m r else (i,v)::ym (Gc m (wc 1 i)) r
def fN (n:Nat) (K:Nat->Prop):Prop:=match n with
 | 0=>K 0
 | k+1=>K (k+1)
def vt:AV->Bool
 | .int _ _=>true | .bool _=>true | .cp _=>true | .sl _ _=>true | .nil=>true
 | _=>false
def EJ:u_->Bool
 | []=>true
 | v::r=>bif vt v then EJ r else false
def aA:o_->Bool
 | []=>true
 | v::r=>bif EJ v then aA r else false
def NM (s:Nat):AV->Bool
 | .row k _ _ _ _=>za k s | .ptr k _ _ _=>za k s
 | _=>false
def J0 (s:Nat):u_->Bool
 | []=>false
 | v::r=>bif NM s v then true else J0 s r
def U9 (s:Nat):o_->Bool
 | []=>false
 | v::r=>bif J0 s v then true else U9 s r
def RC (s:Nat):AV->Bool
 | .agg cs=>J0 s cs
 | .fn _ _ _ cs=>J0 s cs
 | v=>NM s v
def Y4 (s:Nat):u_->Bool
 | []=>false
 | v::r=>bif RC s v then true else Y4 s r
def NN (s:Nat):AV->Bool
 | .c5 vs=>Y4 s vs
 | v=>RC s v
def JF (s:Nat):Tm->Bool
 | []=>false
 | (_,v)::r=>bif NN s v then true else JF s r
def JE (s:Nat):BF->Bool
 | .bx cs=>J0 s cs
 | .rw _ _=>false
 | .bs _ es=>U9 s es
 | .mx _=>false
 | .hx _ _ _=>false
 | .vw _ _=>false
def HU (s:Nat):Mem->Bool
 | []=>false
 | (k,_,c)::r=>bif za s k then true else bif JE s c then true else HU s r
def QJ (s:Nat):AV->Bool
 | .row k t _ _ _=>bif za k s then (match t with|0=>false|_+1=>true) else false
 | .ptr k t _ _=>bif za k s then (match t with|0=>false|_+1=>true) else false
 | _=>false
def OD (s:Nat):u_->Bool
 | []=>false
 | v::r=>bif QJ s v then true else OD s r
def V5 (s:Nat):AV->Bool
 | .agg cs=>OD s cs
 | .fn _ _ _ cs=>OD s cs
 | v=>QJ s v
def X3 (s:Nat):u_->Bool
 | []=>false
 | v::r=>bif V5 s v then true else X3 s r
def R7 (s:Nat):AV->Bool
 | .c5 vs=>X3 s vs
 | v=>V5 s v
def K4 (s:Nat):Tm->Bool
 | []=>false
 | (_,v)::r=>bif R7 s v then true else K4 s r
def X4 (s:Nat):o_->Bool
 | []=>false
 | v::r=>bif OD s v then true else X4 s r
def OC (s:Nat):BF->Bool
 | .bx cs=>OD s cs
 | .bs _ es=>X4 s es
 | _=>false
def JN (s:Nat):Mem->Bool
 | []=>false
 | (_,_,c)::r=>bif OC s c then true else JN s r
def used (k:Nat) (tm:Tm) (M:Mem):Bool:=bif HU k M then true else JF k tm
def iA (tm:Tm) (M:Mem):N'->(Nat->Prop)->Prop
 | [],_=>False
 | k::r,K=>bif used k tm M then iA tm M r K else K k
def HM (s:Nat) (tm:Tm) (M:Mem) (K:Nat->Prop):Prop:=iA tm M [s,s+1000000,s+2000000,s+3000000] K
def fL:u_->(u_->Prop)->Prop
 | [],K=>K []
 | v::r,K=>fL r λ r'=>K (v::r')
def fV (v:AV) (K:AV->Prop):Prop:=match v with
 | .int k n=>K (.int k n) | .bool b=>K (.bool b) | .sl l es=>K (.sl l es) | .row s t z o n=>K (.row s t z o n)
 | .nil=>K .nil | .ptr s t i j=>K (.ptr s t i j) | .s9 cs=>K (.s9 cs) | .agg cs=>fL cs λ cs=>K (.agg cs)
 | .fn p f g cs=>fL cs λ cs=>K (.fn p f g cs)
 | .c5 vs=>fL vs λ vs=>K (.c5 vs) | .cp c=>K (.cp c) | .any=>False
def fC (v:AV) (K:u_->Prop):Prop:=match v with
 | .agg cs=>fL cs K
 | .fn _ _ _ _=>False
 | .c5 _=>False
 | .any=>False
 | v=>fV v λ v=>K [v]
def fB (b:Bool) (K:Bool->Prop):Prop:=match b with
 | true=>K true
 | false=>K false
def fT:Tm->(Tm->Prop)->Prop
 | [],K=>K []
 | (i,v)::r,K=>fT r λ r'=>K ((i,v)::r')
def fM:Mem->(Mem->Prop)->Prop
 | [],K=>K []
 | (k,s,c)::r,K=>fM r λ r'=>K ((k,s,c)::r')
def fF (v:AV) (K:AV->Prop):Prop:=match v with
 | .int k n=>K (.int k n) | .bool b=>K (.bool b) | .sl l es=>K (.sl l es) | .row s t z o n=>K (.row s t z o n)
 | .nil=>K .nil | .ptr s t i j=>K (.ptr s t i j) | .cp c=>K (.cp c)|_=>False
def f2 (v:AV) (K:AV->Prop):Prop:=match v with
 | .int k n=>K (.int k n) | .bool b=>K (.bool b) | .sl l es=>K (.sl l es) | .row s t z o n=>K (.row s t z o n)
 | .nil=>K .nil | .ptr s t i j=>K (.ptr s t i j) | .cp c=>K (.cp c) | .agg cs=>fL cs λ cs=>K (.agg cs) | .fn p f g cs=>fL cs λ cs=>K (.fn p f g cs)|_=>False
def rm (agg:Bool) (ds:u_) (K:AV->Prop):Prop:=match agg with
 | true=>K (.agg ds)
 | false=>match ds with
  | [c]=>fF c K
  | _=>False
def AF (p q A B:Prop):Prop:=(p->A)/\(q->B)
def AL (p A:Prop):Prop:=p/\A
def AC (op:BinOp) (k:IntKind) (a:Int) (k':IntKind) (b:Int) (K:AV->Prop):Prop := ∃ v,DP op k a k' b=some v/\K v
def CQ (op:UnOp) (k:IntKind) (n:Int) (K:AV->Prop):Prop := ∃ v,VM op (.int k n)=some v/\K v
structure A5 (k:IntKind) (n:Int) (K:Int->Prop):Prop where h:K (k.wrap n)
def AW (es:o_) (a:Int) (z:Nat) (K:u_->Prop):Prop:=0<=a /\ ∃ cs,es[a.toNat]? = some cs/\cs.length=z/\K cs
def BA (es:o_) (i j n:Nat) (K:u_->Prop):Prop := ∃ cs ds,es[i]? = some cs/\part cs j n=some ds/\K ds
def A8 (es:o_) (i j:Nat) (vs:u_) (K:o_->Prop):Prop := ∃ cs,es[i]? = some cs/\j+vs.length<=cs.length/\K (es.set i (splice cs j vs))
def B3 (a b:Int) (bytes:Nat) (zero:u_) (K:o_->Nat->Prop):Prop:=(0<=a/\a<=b/\b*bytes<=DX/\b<=9223372036854775807)/\K (Fa a.toNat zero) a.toNat
structure AQ (es:o_) (K:Nat->Prop):Prop where h:K es.length
def BL (es:o_) (len:Nat) (ys:o_) (z bytes:Nat) (K:o_->Nat->Prop):Prop :=
 len<=es.length/\(∀ e∈ys,e.length=z)/\(len+ys.length)*bytes<=DX/\len+ys.length<=9223372036854775807/\K (es.take len++ys) (len+ys.length)
def CN (ys:o_) (z bytes:Nat) (K:o_->Nat->Prop):Prop :=
 (∀ e∈ys,e.length=z)/\ys.length*bytes<=DX/\ys.length<=9223372036854775807/\K ys ys.length
def D4 (es:o_) (off len:Nat) (ys:o_) (z:Nat) (K:o_->Nat->Prop):Prop :=
 off+len<=es.length/\(∀ e∈ys,e.length=z)/\K (es.take off++ys.take len++es.drop (off+min ys.length len)) (min ys.length len)
def BP (es:o_) (off len:Nat) (K:o_->Prop):Prop:=off+len<=es.length/\K ((es.drop off).take len)
def GE:u_->Bool
 | []=>true
 | v::r=>match v with
  | .int _ _=>GE r | .bool _=>GE r | .cp _=>GE r | .sl _ _=>GE r
  | _=>false
def nl:AV->AV
 | .nil => .sl false []
 | v=>v
def NI:u_->Bool
 | []=>true
 | v::r=>match v with
  | .int _ _=>NI r | .bool _=>NI r | .cp _=>NI r | .sl _ _=>NI r | .nil=>NI r
  | _=>false
def A1 (es:o_) (off len:Nat) (K:o_->Prop):Prop:=off+len<=es.length/\(∀ e∈es,NI e=true)/\K (((es.drop off).take len).map λ e=>e.map nl)
def BV (rows:List (P')) (i:Nat) (K:P'->Prop):Prop := ∃ r,rows[i]? = some r/\K r
def BO (rows:List (P')) (i:Nat) (K:Nat->o_->Prop):Prop := ∃ z es,rows[i]? = some (some (z,es))/\K z es
def CS (rows:List (P')) (i z:Nat) (es:o_) (K:List (P')->Prop):Prop:=i<rows.length/\K (rows.set i (some (z,es)))
def CY (rows:List (P')) (i z:Nat) (es es':o_) (K:List (P')->Prop):Prop:=es'.length=es.length/\K (rows.set i (some (z,es')))
def C2 (a b:Int) (bytes:Nat) (K:List (P')->Nat->Prop):Prop:=(0<=a/\a<=b/\b*bytes<=DX/\b<=9223372036854775807)/\K (Fa a.toNat none) a.toNat
def BX (rows:List (P')) (len:Nat) (r:P') (bytes:Nat) (K:List (P')->Nat->Prop):Prop :=
 len=rows.length/\(len+1)*bytes<=DX/\len+1<=9223372036854775807/\K (rows++[r]) (len+1)
def VC (q:Bool):List (P')->o_
 | []=>[]
 | none::r=>[.sl false []]::VC q r
 | some (_,es)::r=>[.sl q es]::VC q r
def CG (q:Bool) (rows:List (P')) (off len:Nat) (K:o_->Prop):Prop :=
 off=0/\len=rows.length/\(∀ z es,some (z,es)∈rows -> ∀ e∈es,GE e=true)/\K (VC q rows)
def B6 (lo hi:Option Int) (len:Nat) (K:Nat->Nat->Prop):Prop :=
 ∃ a h:Nat,(match lo with|none=>a=0|some x=>0<=x/\a=x.toNat)/\(match hi with|none=>h=len|some x=>0<=x/\x<=len/\h=x.toNat)/\a<=h/\K a h
def CF (z:Nat) (es:o_) (lo hi:Option Int) (K:o_->Prop):Prop:=(∀ e∈es,e.length=z)/\B6 lo hi es.length λ a h=>K ((es.take h).drop a)
def AB (L:Lib) (f:Nat) (vs:u_) (K:AV->Prop):Prop := ∃ r,Ev L f vs r/\K r
def NY (n:Nat) (cs ds:u_) (K:Bool->Prop):Prop := ∃ a b,I4 cs=some a/\I4 ds=some b/\a.length=n/\b.length=n/\K (decide (a=b))
def fU:u_->Bool
 | []=>true
 | .int _ _::r=>fU r
 | _=>false
def CX (L:Lib) (f:Nat) (vs:u_) (K:Nat->o_->Nat->Prop):Prop := ∃ z es n,LM L f vs z es/\n=es.length/\K z es n
abbrev GA:=Nat->Nat->Nat × Nat
def BH (σ:GA):AV->AV
 | .row k t z o n => .row (σ k t).1 (σ k t).2 z o n
 | .ptr k t i j => .ptr (σ k t).1 (σ k t).2 i j
 | v=>v
def BT (σ:GA):AV->AV
 | .agg cs => .agg (cs.map (BH σ))
 | .fn p f g cs => .fn p f g (cs.map (BH σ))
 | v=>BH σ v
def BM (σ:GA):AV->AV
 | .c5 vs => .c5 (vs.map (BT σ))
 | v=>BT σ v
def CB (σ:GA) (k:Nat):Nat->List (P')->o_
 | _,[]=>[]
 | i,none::r=>[.nil]::CB σ k (i+1) r
 | i,some (z,es)::r=>[.row (σ k (i+1)).1 (σ k (i+1)).2 z 0 es.length]::CB σ k (i+1) r
def BF.c9 (σ:GA) (k:Nat):BF->EP
 | .bx cs=>⟨cs.length,[cs.map (BH σ)]⟩
 | .rw z es=>⟨z,es⟩
 | .bs z es=>⟨z,es.map λ cs=>cs.map (BH σ)⟩
 | .mx rows=>⟨1,CB σ k 0 rows⟩
 | .hx i v rows=>⟨1,(CB σ k 0 rows).set i [v]⟩
 | .vw w rows=>⟨1,w.map λ t=>((CB σ k 0 rows)[t]?).getD []⟩
def BF.ma:BF->Bool
 | .bx _=>false
 | _=>true
def FP (s:Nat):Bool:=db s 900000
structure I1 (σ:GA) (own:AJ) (M:Mem):Prop where
 site : ∀ k s c,b9 M k=some (s,c)->(σ k 0).1=s
 c9 : ∀ k t c,a9 M k t=some c->(own (σ k t).1).c9 (σ k t).2=some (c.c9 σ k)
 old : ∀ k t c,a9 M k t=some c->(σ k t).2<(own (σ k t).1).g7
 inj : ∀ k t k' t' c c',a9 M k t=some c->a9 M k' t'=some c'->σ k t=σ k' t'->k=k'/\t=t'
 low : ∀ k t c,a9 M k t=some c->c.ma=true->FP (σ k t).1=true
structure RX (σ:GA) (tm:Tm) (M:Mem) (st:St):Prop where
 tm : ∀ j,tg tm j = .any\/e9 st.tm j=BM σ (tg tm j)
 sat:I1 σ st.own M
def SQ (Q:Tm->Mem->Prop) (st:St):Prop := ∃ σ tm M,RX σ tm M st/\Q tm M
def AA (L:Lib) (k:List It) (tm:Tm) (M:Mem) (Q:Tm->Mem->Prop):Prop := ∀ σ st,RX σ tm M st->AK L k st (SQ Q)
def rT (L:Lib) (l:List AI) (k:List It) (tm:Tm) (M:Mem) (Q:Tm->Mem->Prop):Prop := ∀ σ st,RX σ tm M st->AO L l k st (SQ Q)
def BG (L:Lib) (f:Nat) (vs:u_) (tm:Tm) (M:Mem) (K:AV->Mem->Prop):Prop :=
 ∀ σ own,I1 σ own M -> ∃ r m4 σ' M',HL L f (vs.map (BM σ)) own (BM σ' r) m4/\I1 σ' m4 M'/\(∀ j,BM σ' (tg tm j)=BM σ (tg tm j))/\K r M'
def YY (s:Nat):Mem->Bool
 | []=>true
 | (_,s',_)::r=>bif za s' s then false else YY s r
def FrS (L:Lib) (s f:Nat):Prop :=
 ∀ n vs (o0 o2:AJ) r o',(∀ t,o0.get s t=none)->(∀ q,q≠s->o2 q=o0 q)->DR L n f vs o0=some (r,o')->DR L n f vs o2=some (r,o'.put s (o2 s))
def Ad0 (L:Lib) (s f:Nat) (vs:u_) (tm:Tm) (M:Mem) (K:AV->Mem->Prop):Prop :=
 FrS L s f/\(FP s=false/\YY s M=true)/\BG L f vs tm M λ r M'=>YY s M'=true/\K r M'
def Ad1 (L:Lib) (s f key:Nat) (rest:u_) (M:Mem) (K:AV->Mem->Prop):Prop :=
 ∃ (cells gk:u_) (kd:IntKind) (n:Int),b9 M key=some (s,.bx cells)/\EJ cells=true/\EJ gk=true/\(∀ (t:Nat) (q:CO),q.c9 t=some ⟨cells.length,[cells]⟩->sB L s f (.ptr s t 0 0::rest) q (.int kd n) (q.q6 t (some ⟨gk.length,[gk]⟩)))/\K (.int kd n) ((key,s,.bx gk)::M)
def cv:AV->AV
 | .agg cs=>bif EJ cs then .agg cs else .any
 | .c5 [] => .c5 []
 | .s9 _ => .any
 | .fn p f g [] => .fn p f g []
 | v=>bif vt v then v else .any
def ex (tm:Tm):AU->AV
 | .t n=>tg tm n
 | .c v=>cv v
def kq (k k':IntKind):Bool:=decide (k=k')
def kL (op:BinOp) (k:IntKind) (a:Int) (k':IntKind) (b:Int) (K:AV->Prop):Prop:=match op with
 | .lss=>bif kq k k' then AF (a<b) (b<=a) (K (.bool true)) (K (.bool false)) else False
 | .leq=>bif kq k k' then AF (a<=b) (b<a) (K (.bool true)) (K (.bool false)) else False
 | .gtr=>bif kq k k' then AF (b<a) (a<=b) (K (.bool true)) (K (.bool false)) else False
 | .geq=>bif kq k k' then AF (b<=a) (a<b) (K (.bool true)) (K (.bool false)) else False
 | .eql=>bif kq k k' then AF (a=b) (a≠b) (K (.bool true)) (K (.bool false)) else False
 | .neq=>bif kq k k' then AF (a≠b) (a=b) (K (.bool true)) (K (.bool false)) else False
 | op=>AC op k a k' b K
noncomputable def WZ (mx:Bool) (k:IntKind) (K:AV->Prop) (a:Int) (l:u_):Prop :=
 List.rec (motive:=λ_=>Int->Prop) (λ a=>K (.int k a)) (λ v _ ih a=>match v with
  | .int _ b=>bif mx then AF (a<b) (b<=a) (ih b) (ih a) else AF (b<a) (a<=b) (ih b) (ih a)
  | _=>False) l a
def Bb:u_->Nat->AV
 | [],_ => .any
 | v::_,0=>v
 | _::r,n+1=>Bb r n
def TQ (s:Nat):N'->Bool
 | []=>true
 | b7 => !(Q3 s b7)
def W2:N'->Bool
 | []=>true
 | s::r=>bif FP s then false else W2 r
def qD (M:Mem) (k t:Nat) (K:Nat->o_->Prop):Prop:=match b9 M k with
 | some (_,c)=>match t with
  | 0=>match c with
   | .rw z es=>K z es
   | _=>False
  | i+1=>match c with
   | .mx rows=>BO rows i K
   | _=>False
 | none=>False
def eI (M:Mem) (v:AV) (K:o_->Prop):Prop:=match v with
 | .sl _ es=>K es
 | .nil=>K []
 | .cp (.bool _)=>K []
 | .row key t z off len=>qD M key t λ z' es=>bif za z z' then BP es off len K else False
 | _=>False
def XH (q:Bool) (M:Mem) (b7:N') (v:AV) (K:AV->Prop):Prop:=match v with
 | .int k n=>K (.int k n)
 | .bool b=>K (.bool b)
 | .sl l es=>K (.sl l es)
 | .cp c=>K (.cp c)
 | .nil=>K (.sl false [])
 | .row key t z off len=>match b9 M key with
  | some (s,.rw z' es)=>match t with
   | 0=>bif za z z' then bif TQ s b7 then A1 es off len λ es=>K (.sl q es) else False else False
   | _+1=>False
  | some (_,.mx rows)=>match t with
   | 0=>False
   | i+1=>match b7 with
    | []=>BO rows i λ z' es=>bif za z z' then A1 es off len λ es=>K (.sl q es) else False
    | b::r=>bif W2 (b::r) then BO rows i λ z' es=>bif za z z' then A1 es off len λ es=>K (.sl q es) else False else False
  | _=>False
 | _=>False
noncomputable def iW (q:Bool) (M:Mem) (b7:N') (l:u_):(u_->Prop)->Prop :=
 List.rec (motive:=λ_=>(u_->Prop)->Prop) (λ K=>K []) (λ v _ ih K=>XH q M b7 v λ v'=>ih λ r'=>K (v'::r')) l
noncomputable def qN (q:Bool) (M:Mem) (b7:N') (l:o_):(o_->Prop)->Prop :=
 List.rec (motive:=λ_=>(o_->Prop)->Prop) (λ K=>K []) (λ v _ ih K=>iW q M b7 v λ v'=>ih λ r'=>K (v'::r')) l
noncomputable def bW (q:Bool) (M:Mem) (b7:N') (v:AV) (K:AV->Prop):Prop:=match v with
 | .row key 0 z off len=>match b9 M key with
  | some (s,.bs z' es)=>bif za z z' then bif TQ s b7 then bif za off 0 then AL (len=es.length) (qN q M b7 es λ es=>K (.sl q es)) else False else False else False
  | some (_,.mx rows)=>match b7 with
   | []=>bif za z 1 then CG q rows off len λ es=>K (.sl q es) else False
   | _::_=>False
  | _=>XH q M b7 (.row key 0 z off len) K
 | v=>XH q M b7 v K
noncomputable def qO (q:Bool) (M:Mem) (b7:N') (l:u_):(u_->Prop)->Prop :=
 List.rec (motive:=λ_=>(u_->Prop)->Prop) (λ K=>K []) (λ v _ ih K=>bW q M b7 v λ v'=>ih λ r'=>K (v'::r')) l
noncomputable def RH (q:Bool) (M:Mem) (b7:N') (v:AV) (K:AV->Prop):Prop:=match v with
 | .agg cs=>qO q M b7 cs λ cs=>K (.agg cs)
 | v=>bW q M b7 v K
noncomputable def bX (tm:Tm) (M:Mem) (b7:N') (l:List AU):(u_->Prop)->Prop :=
 List.rec (motive:=λ_=>(u_->Prop)->Prop) (λ K=>K []) (λ x _ ih K=>RH true M b7 (ex tm x) λ v=>ih λ vs=>K (v::vs)) l
noncomputable def iX (M:Mem) (b7:N') (v:AV) (K:AV->Prop):Prop:=match v with
 | .nil=>K .nil
 | v=>RH true M b7 v K
noncomputable def qP (tm:Tm) (M:Mem) (b7:N') (l:List AU):(u_->Prop)->Prop :=
 List.rec (motive:=λ_=>(u_->Prop)->Prop) (λ K=>K []) (λ x _ ih K=>iX M b7 (ex tm x) λ v=>ih λ vs=>K (v::vs)) l
noncomputable def WL (tm:Tm) (l:List AU):(u_->Prop)->Prop :=
 List.rec (motive:=λ_=>(u_->Prop)->Prop) (λ K=>K []) (λ x _ ih K=>fV (ex tm x) λ v=>ih λ vs=>K (v::vs)) l
def gW (tm:Tm) (o:Option AU) (K:Option Int->Prop):Prop:=match o with
 | none=>K none
 | some x=>match ex tm x with
  | .int _ n=>K (some n)
  | _=>False
def oQ (es:o_) (K:Nat->Prop):Prop:=match es with
 | []=>K 0
 | [_]=>K 1
 | [_,_]=>K 2
 | [_,_,_]=>K 3
 | [_,_,_,_]=>K 4
 | es=>K es.length
noncomputable def kP (tm:Tm) (z:Nat) (l:List AU):(o_->Prop)->Prop :=
 List.rec (motive:=λ_=>(o_->Prop)->Prop) (λ K=>K []) (λ x _ ih K=>fC (ex tm x) λ cs=>bif za cs.length z then ih λ es=>K (cs::es) else False) l
noncomputable def nH (tm:Tm) (ps:List (Nat × Nat × AU)):u_->(u_->Prop)->Prop :=
 List.rec (motive:=λ_=>u_->(u_->Prop)->Prop) (λ cells K=>K cells) (λ p _ ih cells K=>fC (ex tm p.2.2) λ vs=>bif za vs.length p.2.1 then bif qb (p.1+p.2.1) cells.length then fL (splice cells p.1 vs) λ cells=>ih cells K else False else False) ps
def SM (tm:Tm):List AU->u_
 | []=>[]
 | x::r=>ex tm x::SM tm r
def V0 (tb:N') (n:Int) (K:Nat->Prop):Prop:=0<=n /\ ∃ v,tb[n.toNat]? = some v/\K v
noncomputable def pG (tm:Tm) (l:List AU):(u_->Prop)->Prop :=
 List.rec (motive:=λ_=>(u_->Prop)->Prop) (λ K=>K []) (λ x _ ih K=>fF (ex tm x) λ v=>ih λ cs=>K (v::cs)) l
def pK:AV->Bool
 | .agg _=>false | .fn _ _ _ _=>false | .c5 _=>false | .any=>false
 | _=>true
def aZ:u_->Bool
 | []=>true
 | v::r=>bif pK v then aZ r else false
def V2 (M:Mem) (v:AV):Option (Nat × Option (Nat × Nat × Nat)):=match v with
 | .row ky 0 1 0 1=>match b9 M ky with
  | some (_,.bs 1 [[.row k2 0 z 0 n]])=>some (ky,some (k2,z,n))
  | some (_,.rw 1 [[.nil]])=>some (ky,none)
  | _=>none
 | _=>none
def qX (tm:Tm) (M:Mem) (K:AV->Mem->Prop) (n:Nat) (x v:AU):Prop:=match ex tm x with
 | .ptr key t i j=>fC (ex tm v) λ vs=>bif za vs.length n then (match b9 M key with
  | some (s,c)=>match t with
   | 0=>match c with
    | .bx cs=>bif za i 0 then bif qb (j+vs.length) cs.length then fL (splice cs j vs) λ fg=>K (.c5 []) ((key,s,.bx fg)::M) else False else False
    | .rw z es=>bif EJ vs then A8 es i j vs λ es'=>K (.c5 []) ((key,s,.rw z es')::M) else False
    | .bs _ _=>False
    | .mx rows=>match vs with
     | [.row y8 0 z 0 m]=>bif za key y8 then False else bif K4 key tm then False else bif JN key M then False else bif za j 0 then (match b9 M y8 with
      | some (_,.rw z' es)=>bif za z z' then fM (o6 y8 M) λ M'=>AL (m=es.length) (CS rows i z es λ q7=>K (.c5 []) ((key,s,.mx q7)::M')) else False
      | _=>False) else False
     | [.row y8 (t2+1) z 0 m]=>bif za key y8 then bif za j 0 then BO rows t2 λ z' es=>bif za z z' then AL (m=es.length/\i<rows.length) (K (.c5 []) ((key,s,.vw ((nb rows.length).set i t2) rows)::M)) else False else False else False
     | _=>False
    | .hx i0 _ rows=>match vs with
     | [.row y8 0 z 0 m]=>bif za key y8 then False else bif K4 key tm then False else bif JN key M then False else bif za j 0 then (match b9 M y8 with
      | some (_,.rw z' es)=>bif za z z' then fM (o6 y8 M) λ M'=>AL (i=i0/\m=es.length) (CS rows i z es λ q7=>K (.c5 []) ((key,s,.mx q7)::M')) else False
      | _=>False) else False
     | _=>False
    | .vw w rows=>match vs with
     | [.row y8 (t2+1) z 0 m]=>bif za key y8 then bif za j 0 then BO rows t2 λ z' es=>bif za z z' then AL (m=es.length/\i<w.length /\ ∀ t∈w,t<rows.length) (K (.c5 []) ((key,s,.vw (w.set i t2) rows)::M)) else False else False else False
     | _=>False
   | i'+1=>match c with
    | .mx rows=>bif EJ vs then BO rows i' λ z es=>A8 es i j vs λ es'=>CY rows i' z es es' λ q7=>K (.c5 []) ((key,s,.mx q7)::M) else False
    | _=>False
  | none=>False) else False
 | _=>False
def BU (r:AV) (K:AV->Prop):Prop:=(KY r\/VT r)/\K (NF r)
noncomputable def XE (L:Lib) (tm:Tm) (M:Mem) (b7:N') (K:AV->Mem->Prop):EI->Prop
 | .m5 x=>fV (ex tm x) λ v=>K v M
 | .v5 s z=>bif FP s then HM s tm M λ k=>K (.row k 0 z 0 0) ((k,s,.rw z [])::M) else False
 | .pick c a b=>match ex tm c with
  | .bool true=>fV (ex tm a) λ v=>K v M
  | .bool false=>fV (ex tm b) λ v=>K v M
  | _=>False
 | .bin op x y=>match ex tm x,ex tm y with
  | .int k a,.int k' b=>kL op k a k' b λ v=>K v M
  | _,_=>False
 | .tk ne n x y=>match ex tm x,ex tm y with
  | .agg cs,.agg ds=>NY n cs ds λ b=>fB (bif ne then !b else b) λ c=>K (.bool c) M
  | _,_=>False
 | .beq ne x y=>match ex tm x,ex tm y with
  | .bool a,.bool b=>fB (bif ne then !(a == b) else a == b) λ c=>K (.bool c) M
  | _,_=>False
 | .un op x=>match ex tm x with
  | .int k n=>CQ op k n λ v=>K v M
  | .bool b=>match op with
   | .not=>fB (!b) λ c=>K (.bool c) M
   | _=>False
  | _=>False
 | .conv k x=>match ex tm x with
  | .int _ n=>A5 k n λ v=>K (.int k v) M
  | _=>False
 | .box s x=>fC (ex tm x) λ cs=>HM s tm M λ k=>K (.ptr k 0 0 0) ((k,s,.bx cs)::M)
 | .alloc s zero=>bif EJ zero then (HM s tm M λ k=>K (.ptr k 0 0 0) ((k,s,.bx zero)::M)) else False
 | .build zero parts=>bif EJ zero then nH tm parts zero λ cs=>K (.agg cs) M else False
 | .a7 s z parts=>bif FP s then kP tm z parts λ es=>oQ es λ n=>HM s tm M λ k=>bif aA es then K (.row k 0 z 0 n) ((k,s,.rw z es)::M) else K (.row k 0 z 0 n) ((k,s,.bs z es)::M) else False
 | .j4 x off=>match ex tm x with
  | .ptr key t i j=>K (.ptr key t i (j+off)) M
  | .s9 cs=>fL (cs.drop off) λ cs=>K (.s9 cs) M
  | _=>False
 | .pn x off n agg=>match ex tm x with
  | .agg cs=>match part cs off n with
   | some ds=>fL ds λ ds=>rm agg ds λ v=>K v M
   | none=>False
  | _=>False
 | .u6 arr z x i=>match ex tm i with
  | .int _ n=>match arr,ex tm x with
   | some len,.ptr key t i' j=>AL (0<=n/\n<(len:Int)) (K (.ptr key t i' (j+n.toNat*z)) M)
   | some len,.s9 cs=>AL (0<=n/\n<(len:Int)) (fL (cs.drop (n.toNat*z)) λ cs=>K (.s9 cs) M)
   | none,.row key t z' off len=>bif za z' z then AL (0<=n/\n<(len:Int)) (K (.ptr key t (off+n.toNat) 0) M) else False
   | none,.sl _ es=>AW es n z λ cs=>K (.s9 cs) M
   | _,_=>False
  | _=>False
 | .ld agg n x=>match ex tm x with
  | .ptr key t i j=>match b9 M key with
   | some (s,c)=>match t with
    | 0=>bif TQ s b7 then (match c with
     | .bx cs=>bif za i 0 then (match part cs j n with
      | some ds=>fL ds λ ds=>rm agg ds λ v=>K v M
      | none=>False) else False
     | .rw _ es=>BA es i j n λ ds=>fL ds λ ds=>bif EJ ds then rm agg ds λ v=>K v M else False
     | .bs _ es=>(match es[i]? with
      | some cs=>(match part cs j n with
       | some ds=>fL ds λ ds=>rm agg ds λ v=>K v M
       | none=>False)
      | none=>False)
     | .mx rows=>bif za j 0 then bif za n 1 then BV rows i λ r=>match r with
      | some (z,es)=>rm agg [.row key (i+1) z 0 es.length] λ v=>K v M
      | none=>rm agg [.nil] λ v=>K v M else False else False
     | .hx _ _ _=>False
     | .vw _ _=>False) else False
    | i'+1=>match c,b7 with
     | .mx rows,[]=>BO rows i' λ_ es=>BA es i j n λ ds=>fL ds λ ds=>bif EJ ds then rm agg ds λ v=>K v M else False
     | .mx rows,b::r=>bif W2 (b::r) then BO rows i' λ_ es=>BA es i j n λ ds=>fL ds λ ds=>bif EJ ds then rm agg ds λ v=>K v M else False else False
     | _,_=>False
   | none=>False
  | .s9 cs=>match part cs 0 n with
   | some ds=>fL ds λ ds=>bif EJ ds then rm agg ds λ v=>K v M else False
   | none=>False
  | _=>False
 | .vm agg n x=>match ex tm x with
  | .s9 cs=>match part cs 0 n with
   | some ds=>fL ds λ ds=>bif EJ ds then rm agg ds λ v=>K v M else False
   | none=>False
  | _=>False
 | .st n x v=>qX tm M K n x v
 | .pe s n x v=>match ex tm x with
  | .ptr key 0 _ _=>(match b9 M key with
   | some (s',_)=>bif za s' s then qX tm M K n x v else False
   | none=>False)
  | _=>False
 | .j6 f xs=>WL tm xs λ vs=>bif vs.all dq then AB L f (vs.map zu) λ r=>BU r λ r=>K r M else False
 | .mk s z bytes zero l c=>match ex tm l,ex tm c with
  | .int _ a,.int _ b=>bif za zero.length z then bif EJ zero then match zero with
   | [.nil]=>bif FP s then C2 a b bytes λ rows n=>HM s tm M λ k=>K (.row k 0 z 0 n) ((k,s,.mx rows)::M) else False
   | zero=>bif FP s then (B3 a b bytes zero λ es n=>HM s tm M λ k=>K (.row k 0 z 0 n) ((k,s,.rw z es)::M)) else False else False else False
  | _,_=>False
 | .di z x lo hi=>gW tm lo λ lo=>gW tm hi λ hi=>match ex tm x with
  | .sl l es=>CF z es lo hi λ es=>K (.sl l es) M
  | .row key t z' off len=>bif za z' z then B6 lo hi len λ a h=>K (.row key t z (off+a) (h-a)) M else False
  | .nil=>(match lo,hi with
   | none,none=>K .nil M
   | some a,none=>AL (a=0) (K .nil M)
   | none,some h=>AL (h=0) (K .nil M)
   | some a,some h=>AL (a=0/\h=0) (K .nil M))
  | _=>False
 | .ext x i=>match ex tm x with
  | .c5 vs=>f2 (Bb vs i) λ v=>K v M
  | _=>False
 | .len x=>match ex tm x with
  | .sl _ es=>AQ es λ n=>K (.int .i64 (n:Int)) M
  | .nil=>K (.int .i64 0) M
  | .row _ _ _ _ n=>K (.int .i64 (n:Int)) M
  | _=>False
 | .mm mx xs=>match SM tm xs with
  | .int k a::r=>WZ mx k (λ v=>K v M) a r
  | _=>False
 | .app s z bytes x y=>bif qb 800000 s then False else (
  match V2 M (ex tm y) with
  | some (ky,some (k2,z2,n2))=>match ex tm x with
   | .row key 0 z' off len=>bif za off 0 then bif za z' 1 then bif za z 1 then bif za key k2 then False else bif za key ky then False else bif za k2 ky then False else (match b9 M k2 with
    | some (_,.rw z3 es)=>bif za z2 z3 then (match b9 M key with
     | some (s',.mx rows)=>fM (o6 key (o6 k2 (o6 ky M))) λ M'=>AL (n2=es.length) (BX rows len (some (z2,es)) bytes λ q7 n=>HM s tm M λ k=>K (.row k 0 z 0 n) ((k,s',.mx q7)::M'))
     | _=>False) else False
    | _=>False) else False else False else False
   | .nil=>bif FP s then bif za z 1 then (match b9 M k2 with
    | some (_,.rw z3 es)=>bif za z2 z3 then fM (o6 k2 M) λ M'=>AL (n2=es.length/\bytes<=140737488355328) (HM s tm M λ k=>K (.row k 0 z 0 1) ((k,s,.mx [some (z2,es)])::M')) else False
    | _=>False) else False else False
   | _=>False
  | some (ky,none)=>match ex tm x with
   | .row key 0 z' off len=>bif za off 0 then bif za z' 1 then bif za z 1 then bif za key ky then False else (match b9 M key with
     | some (s',.mx rows)=>fM (o6 key M) λ M'=>BX rows len none bytes λ q7 n=>HM s tm M λ k=>K (.row k 0 z 0 n) ((k,s',.mx q7)::M')
     | _=>False) else False else False else False
   | .nil=>bif FP s then bif za z 1 then AL (bytes<=140737488355328) (HM s tm M λ k=>K (.row k 0 z 0 1) ((k,s,.mx [none])::M)) else False else False
   | _=>False
  | none=>eI M (ex tm y) λ ys=>match ex tm x with
   | .row key 0 z' off len=>bif za off 0 then bif za z' z then (match b9 M key with
    | some (s',.rw il es)=>bif za il z then fM (o6 key M) λ M'=>(BL es len ys z bytes λ es' n=>HM s tm M λ k=>K (.row k 0 z 0 n) ((k,s',.rw z es')::M')) else False
    | _=>False) else False else False
   | .row key (i+1) z' off len=>bif za off 0 then bif za z' z then (match b9 M key with
    | some (sk,.mx rows)=>fM (o6 key M) λ M'=>BO rows i λ il es=>bif za il z then (BL es len ys z bytes λ es' n => ∀ s' v,HM s tm M λ k=>K (.row k 0 z 0 n) ((k,s',.rw z es')::(key,sk,.hx i v (rows.set i none))::M')) else False
    | _=>False) else False else False
   | .nil=>bif FP s then CN ys z bytes λ es n=>HM s tm M λ k=>K (.row k 0 z 0 n) ((k,s,.rw z es)::M) else False
   | _=>False)
 | .call f xs=>bX tm M b7 xs λ vs=>AB L f vs λ r=>K r M
 | .c7 f xs=>match b7 with
  | [s]=>WL tm xs λ vs=>Ad0 L s f vs tm M K
  | _=>WL tm xs λ vs=>BG L f vs tm M K
 | .n7 s f xs=>bif FP s then qP tm M b7 xs λ vs=>CX L f vs λ z es n=>HM s tm M λ k=>K (.row k 0 z 0 n) ((k,s,.rw z es)::M) else False
 | .uq ne x=>match ex tm x with
  | .nil=>fB (xor true ne) λ c=>K (.bool c) M
  | .cp (.bool b)=>fB (xor b ne) λ c=>K (.bool c) M
  | .sl _ es=>AL (es≠[]) (fB (xor false ne) λ c=>K (.bool c) M)
  | .row _ _ _ _ n=>AL (0<n) (fB (xor false ne) λ c=>K (.bool c) M)
  | _=>False
 | .bad=>False
 | .fx x=>match ex tm x with
  | .nil=>K (.int .i64 0) M
  | _=>False
 | .pg s z bytes x y=>match ex tm x,ex tm y with
  | .nil,.int _ n=>bif FP s then AL (0<n/\n*bytes<=DX/\n<=9223372036854775807) (HM s tm M λ k=>K (.row k 0 z 0 n.toNat) ((k,s,.rw z [])::M)) else False
  | _,_=>False
 | .cg s f xs=>WL tm xs λ vs=>match vs with
  | .ptr key 0 0 0::rest=>bif fU rest then Ad1 L s f key rest M K else False
  | _=>False
 | .gx tb x=>match ex tm x with
  | .int _ n=>V0 tb n λ v=>K (.int .u8 v) M
  | _=>False
 | .ri p f xs=>pG tm xs λ cs=>K (.fn (p&&cs.isEmpty) f (L.num f) cs) M
 | .ti f x=>match ex tm x with
  | .agg (c::cs)=>K (.fn true f (L.num f) (c::cs)) M
  | _=>False
 | .m9 x xs=>match ex tm x with
  | .fn true f g []=>AL (g=L.num f) (bX tm M [] xs λ vs=>AB L f vs λ r=>K r M)
  | .fn true f g (c::cs)=>AL (g=L.num f) (RH true M [] (.agg (c::cs)) λ v=>bX tm M [] xs λ vs=>AB L f (v::vs) λ r=>K r M)
  | .fn false f g cs=>bif aZ cs then AL (g=L.num f) (WL tm xs λ vs=>fL (vs++cs) λ vs=>BG L f vs tm M K) else False
  | _=>False
def Gb (key:Nat):Tm->Tm
 | []=>[]
 | (j,v)::r=>bif R7 key v then (j,.any)::Gb key r else (j,v)::Gb key r
def xk (v:AV) (tm:Tm) (K:Tm->Prop):Prop:=match v with
 | .row key (_+1) _ _ _=>fT (Gb key tm) K
 | _=>K tm
noncomputable def XI (L:Lib) (o:AI) (ih:(Tm->Mem->Prop)->Tm->Mem->Prop) (K:Tm->Mem->Prop) (tm:Tm) (M:Mem):Prop:=match o with
 | ⟨some d,.app s z b x y,none,b7⟩=>XE L tm M b7 (λ v M=>xk (ex tm x) tm λ tm=>ih K ((d,v)::tm) M) (.app s z b x y)
 | ⟨some d,op,none,b7⟩=>XE L tm M b7 (λ v M=>ih K ((d,v)::tm) M) op
 | ⟨none,op,none,b7⟩=>XE L tm M b7 (λ_ M=>ih K tm M) op
 | ⟨dst,op,some (g,w),b7⟩=>match tg tm g with
  | .bool b=>fB (b == w) λ c=>match c,dst with
   | true,some d=>XE L tm M b7 (λ v M=>ih K ((d,v)::tm) M) op
   | true,none=>XE L tm M b7 (λ_ M=>ih K tm M) op
   | false,some d=>ih K ((d,.c5 [])::tm) M
   | false,none=>ih K tm M
  | .c5 []=>match dst with
   | some d=>ih K ((d,.c5 [])::tm) M
   | none=>ih K tm M
  | _=>False
noncomputable def XO (L:Lib) (l:List AI):(Tm->Mem->Prop)->Tm->Mem->Prop :=
 List.rec (motive:=λ_=>(Tm->Mem->Prop)->Tm->Mem->Prop) (λ K tm M=>K tm M) (λ o _ ih K tm M=>XI L o ih K tm M) l
noncomputable def XS (L:Lib) (Q:Tm->Mem->Prop) (ih:List It->Tm->Mem->Prop) (k:List It) (tm:Tm) (M:Mem):Prop:=match k with
 | []=>Q tm M
 | it::k=>match it with
  | .c9 _=>ih k tm M
  | .kx ts ss=>fN (mask 0 ts) λ m=>fT (ym m tm) λ tm=>match ss with
   | []=>ih k tm M
   | _::_=>False
  | .lp c=>AA L (.lp c::k) tm M Q
  | .code c=>match c with
   | .skip=>ih k tm M
   | .ops l _=>XO L l (λ tm M=>ih k tm M) tm M
   | .dr c ts ss=>ih (.code c :: .kx ts ss::k) tm M
   | .scope c=>ih (.code c::k) tm M
   | .seq a b=>ih (.code a :: .code b::k) tm M
   | .cond x a b=>match ex tm x with
    | .bool b'=>fB b' λ c=>match c with
     | true=>ih (.code a::k) tm M
     | false=>ih (.code b::k) tm M
    | _=>False
   | .block id c=>ih (.code c :: .c9 id::k) tm M
   | .loop c=>AA L (.lp c::k) tm M Q
   | .exit id=>match EG id k with
    | some k'=>ih k' tm M
    | none=>False
   | .ret=>Q tm M
noncomputable def XK (L:Lib) (Q:Tm->Mem->Prop) (n:Nat):List It->Tm->Mem->Prop :=
 Nat.rec (motive:=λ_=>List It->Tm->Mem->Prop) (λ k tm M=>AA L k tm M Q) (λ_ ih k tm M=>XS L Q ih k tm M) n
def bN (tm:Tm) (M:Mem) (r:KW) (K:AV->Prop):Prop:=match r with
 | .tmp t=>f2 (tg tm t) K
 | .cell t agg n=>match tg tm t with
  | .ptr key 0 i j=>match b9 M key with
   | some (_,.bx cs)=>bif za i 0 then (match part cs j n with
    | some ds=>fL ds λ ds=>rm agg ds K
    | none=>False) else False
   | _=>False
  | _=>False
noncomputable def iJ (tm:Tm) (M:Mem) (l:List KW):(u_->Prop)->Prop :=
 List.rec (motive:=λ_=>(u_->Prop)->Prop) (λ K=>K []) (λ x _ ih K=>bN tm M x λ v=>ih λ vs=>K (v::vs)) l
noncomputable def qM (q:Bool) (M:Mem) (l:u_):(u_->Prop)->Prop :=
 List.rec (motive:=λ_=>(u_->Prop)->Prop) (λ K=>K []) (λ x _ ih K=>RH q M [] x λ v=>ih λ vs=>K (v::vs)) l
def rsv (vs:u_) (K:AV->Prop):Prop:=match vs with
 | [v]=>K v
 | vs=>K (.c5 vs)
def AH (a r:AV):Prop:=a=r/\A3 r
noncomputable def RZ (fn:AFn) (r:AV) (tm:Tm) (M:Mem):Prop:=iJ tm M fn.res λ vs=>qM false M vs λ vs=>rsv vs λ v=>AH v r
end Go.c6

namespace Go.c6
theorem B1 {a b:Nat}:za a b=true↔a=b:=⟨Lb,λ h=>by subst h;simp⟩
theorem GJ {a b:Nat}:za a b=false↔a≠b:=by
 constructor
 ·exact Nat.ne_of_beq_eq_false
 ·intro h
  cases e:za a b
  ·rfl
  ·exact absurd (Lb e) h
theorem LG (j:Nat) : ∀ tm:Tm,tg tm j=e9 tm j
 | []=>rfl
 | (i,v)::r=>by
  simp only[tg,cG,LG j r];cases e:za j i
  ·rw[if_neg (GJ.1 e)];rfl
  ·rw[if_pos (B1.1 e)];rfl
theorem H8 : ∀ (l:u_) (K:u_->Prop),fL l K=K l
 | [],_=>rfl
 | v::r,K=>by rw[fL,H8 r]
theorem YL : ∀ (l:Tm) (K:Tm->Prop),fT l K=K l
 | [],_=>rfl
 | (i,v)::r,K=>by rw[fT,YL r]
theorem QT : ∀ (l:Mem) (K:Mem->Prop),fM l K=K l
 | [],_=>rfl
 | (k,s,c)::r,K=>by rw[fM,QT r]
theorem AiS (n:Nat) (K:Nat->Prop):fN n K=K n:=by cases n<;>rfl
theorem kN (m i:Nat):bit m i=m.testBit i:=by
 have h:Cc (Lc m i) 1=(m >>> i)%2:=Qc (m >>> i);have ht:m.testBit i=decide ((m >>> i)%2=1):=by
  rw[Nat.testBit,Nat.and_comm,Qc];rcases xc (m >>> i) with e|e<;>simp [e]
 unfold bit;rw[h,ht];rcases xc (m >>> i) with e|e<;>rw[e]<;>rfl
theorem tP (m i j:Nat):bit (Gc m (wc 1 i)) j=(bit m j||decide (j=i)):=by
 rw[kN,kN];show (m ||| (1 <<< i)).testBit j=_;rw[Nat.testBit_or,Nat.testBit_shiftLeft];congr 1;by_cases h:j=i
 ·subst h;simp
 ·by_cases h2:j≥i
  ·obtain ⟨d,rfl⟩ : ∃ d,j=i+d+1:=⟨j-i-1,O'⟩
   rw[show i+d+1-i=d+1 by omega,Nat.testBit_succ];simp [h]
  ·simp [h2,h]
theorem tO : ∀ (ts:N') (m j:Nat),bit (mask m ts) j=(bit m j||ts.contains j)
 | [],m,j=>by simp [mask]
 | t::ts,m,j=>by
  rw[mask,tO ts,tP,List.contains_cons,Bool.or_assoc];congr 2
theorem kO (j:Nat):bit 0 j=false:=by rw[kN];simp
theorem cE (j:Nat) : ∀ (tm:Tm) (m:Nat),tg (ym m tm) j=bif bit m j then .any else tg tm j
 | [],m=>by cases bit m j<;>rfl
 | (i,v)::r,m=>by
  simp only[ym];cases hb:bit m i
  ·simp only[cond_false,tg,cE j r,tP]
   cases hj:za j i
   ·have:decide (j=i)=false:=by simpa using GJ.1 hj
    simp only[cond_false,this,Kc]
   ·obtain rfl:=B1.1 hj
    simp only[cond_true,hb,cond_false]
  ·simp only[cond_true,tg,cE j r]
   cases hj:za j i
   ·rfl
   ·obtain rfl:=B1.1 hj
    simp only[hb,cond_true]
theorem fJ {v:AV} {K:AV->Prop} (h:fV v K):v ≠ .any/\K v:=by
 cases v<;>simp only[fV,H8]at h<;>first|exact h.elim|exact ⟨D',h⟩
theorem fI {v:AV} {K:u_->Prop} (h:fC v K):v ≠ .any /\ ∃ cs,cellsOf v=some cs/\K cs:=by
 cases v<;>simp only[fC,fV,H8]at h<;>first|exact h.elim|exact ⟨D',_,rfl,h⟩
theorem QS (b:Bool) (K:Bool->Prop):fB b K=K b:=by cases b<;>rfl
theorem Xk {k:Nat} {tm:Tm} {M:Mem} (h:used k tm M=false):HU k M=false/\JF k tm=false:=by
 unfold used at h;cases h1:HU k M<;>simp only[h1,cond_true,cond_false]at h
 ·exact ⟨rfl,h⟩
 ·cases h
theorem Xa {tm:Tm} {M:Mem} {K:Nat->Prop} : ∀ {l:N'},iA tm M l K -> ∃ k,HU k M=false/\JF k tm=false/\K k
 | [],h=>h.elim
 | k::r,h=>by
  simp only[iA]at h;cases h0:used k tm M<;>simp only[h0,cond_true,cond_false]at h
  ·exact ⟨k,(Xk h0).1,(Xk h0).2,h⟩
  ·exact Xa h
theorem JI {s:Nat} {tm:Tm} {M:Mem} {K:Nat->Prop} (h:HM s tm M K) : ∃ k,HU k M=false/\JF k tm=false/\K k:=Xa h
section
variable {σ:GA}
def DD (σ:GA) (k:Nat) (f:Nat->Nat × Nat):GA:=λ j t=>if j=k then f t else σ j t
theorem CU {k j:Nat} (f:Nat->Nat × Nat) (h:j≠k):DD σ k f j=σ j:=by funext t;simp [DD,h]
theorem B4 (k:Nat) (f:Nat->Nat × Nat):DD σ k f k=f:=by funext t;simp [DD]
theorem qV {k:Nat} {p:Nat->Nat × Nat} {v:AV} (h:NM k v=false):BH (DD σ k p) v=BH σ v:=by
 cases v with
 | row j t z o n=>simp only[NM]at h;simp only[BH,CU p (GJ.1 h)]
 | ptr j t a b=>simp only[NM]at h;simp only[BH,CU p (GJ.1 h)]
 | _=>rfl
theorem ZB {k:Nat} {p:Nat->Nat × Nat} : ∀ {cs:u_},J0 k cs=false->cs.map (BH (DD σ k p))=cs.map (BH σ)
 | [],_=>rfl
 | c::r,h=>by
  simp only[J0]at h;cases h1:NM k c<;>simp only[h1,cond_true,cond_false]at h
  ·rw[ya,ya,qV h1,ZB h]
  ·cases h
theorem qT {k:Nat} {p:Nat->Nat × Nat} : ∀ {es:o_},U9 k es=false->(es.map λ cs=>cs.map (BH (DD σ k p)))=es.map λ cs=>cs.map (BH σ)
 | [],_=>rfl
 | c::r,h=>by
  simp only[U9]at h;cases h1:J0 k c<;>simp only[h1,cond_true,cond_false]at h
  ·rw[ya,ya,ZB h1,qT h]
  ·cases h
theorem cA {k:Nat} {p:Nat->Nat × Nat} {v:AV} (h:RC k v=false):BT (DD σ k p) v=BT σ v:=by
 cases v with
 | agg cs=>simp only[RC]at h;simp only[BT,ZB h]
 | fn p f g cs=>simp only[RC]at h;simp only[BT,ZB h]
 | row a b c d e=>exact qV (v := .row a b c d e) h
 | ptr a b c d=>exact qV (v := .ptr a b c d) h
 | _=>rfl
theorem Xo {k:Nat} {p:Nat->Nat × Nat} : ∀ {cs:u_},Y4 k cs=false->cs.map (BT (DD σ k p))=cs.map (BT σ)
 | [],_=>rfl
 | c::r,h=>by
  simp only[Y4]at h;cases h1:RC k c<;>simp only[h1,cond_true,cond_false]at h
  ·rw[ya,ya,cA h1,Xo h]
  ·cases h
theorem jD {k:Nat} {p:Nat->Nat × Nat} {v:AV} (h:NN k v=false):BM (DD σ k p) v=BM σ v:=by
 cases v with
 | c5 cs=>simp only[NN]at h;simp only[BM,Xo h]
 | agg cs=>exact cA (v := .agg cs) h
 | fn p f g cs=>exact cA (v := .fn p f g cs) h
 | row a b c d e=>exact cA (v := .row a b c d e) h
 | ptr a b c d=>exact cA (v := .ptr a b c d) h
 | _=>rfl
theorem Y5 {k:Nat} : ∀ {tm:Tm},JF k tm=false -> ∀ j,NN k (tg tm j)=false
 | [],_,_=>rfl
 | (i,v)::r,h,j=>by
  simp only[JF]at h;cases h1:NN k v<;>simp only[h1,cond_true,cond_false]at h
  ·simp only[tg]
   cases za j i
   ·exact Y5 h j
   ·exact h1
  ·cases h
theorem XA {k:Nat} : ∀ {M:Mem},HU k M=false -> ∀ j s c,b9 M j=some (s,c)->j≠k/\JE k c=false
 | [],_,_,_,_,e=>by cases e
 | (i,s0,c0)::r,h,j,s,c,e=>by
  simp only[HU]at h;cases h0:za k i<;>simp only[h0,cond_true,cond_false]at h
  ·cases h1:JE k c0<;>simp only[h1,cond_true,cond_false]at h
   ·simp only[b9]at e
    cases h2:za j i<;>simp only[h2,cond_true,cond_false]at e
    ·exact XA h j s c e
    ·simp only[xa,Qa]at e
     obtain ⟨_,rfl⟩:=e;exact ⟨λ e=>GJ.1 h0 (e.symm.trans (B1.1 h2)),h1⟩
   ·cases h
  ·cases h
theorem TI {σ σ':GA} {k:Nat} : ∀ (rows:List (P')) (i:Nat),(∀ j,i<=j->σ k (j+1)=σ' k (j+1))->CB σ k i rows=CB σ' k i rows
 | [],i,h=>rfl
 | none::r,i,h=>by rw[CB,CB,TI r (i+1) λ j hj=>h j O']
 | some (z,es)::r,i,h=>by rw[CB,CB,TI r (i+1) λ j hj=>h j O',h i O']
theorem F4 {k:Nat} : ∀ (rows:List (P')) (i j:Nat),(CB σ k i rows)[j]? = (rows[j]?).map λ r=>match r with|none=>[.nil]|some (z,es)=>[.row (σ k (i+j+1)).1 (σ k (i+j+1)).2 z 0 es.length]
 | [],i,j=>by simp [CB]
 | none::r,i,0=>by simp [CB]
 | none::r,i,j+1=>by simp only[CB,oc,F4 r (i+1) j];rw[show i+1+j=i+(j+1) by omega]
 | some (z,es)::r,i,0=>by simp [CB]
 | some (z,es)::r,i,j+1=>by simp only[CB,oc,F4 r (i+1) j];rw[show i+1+j=i+(j+1) by omega]
theorem F5 {k:Nat} : ∀ (rows:List (P')) (i:Nat),(CB σ k i rows).length=rows.length
 | [],i=>rfl
 | none::r,i=>by simp [CB,F5 r]
 | some (z,es)::r,i=>by simp [CB,F5 r]
theorem dJ {k j:Nat} {f:Nat->Nat × Nat} {c:BF} (h:JE k c=false) (hj:j≠k):c.c9 (DD σ k f) j=c.c9 σ j:=by
 cases c with
 | bx cs=>simp only[JE]at h;simp only[BF.c9,ZB h]
 | rw z es=>rfl
 | bs z es=>simp only[JE]at h;simp only[BF.c9,qT h]
 | mx rows=>simp only[BF.c9];rw[TI rows 0 λ i _=>by rw[CU f hj]]
 | hx a v rows=>simp only[BF.c9];rw[TI rows 0 λ i _=>by rw[CU f hj]]
 | vw w rows=>simp only[BF.c9];rw[TI rows 0 λ i _=>by rw[CU f hj]]
theorem Af2 {v:AV} (h:vt v=true):BH σ v=v:=by cases v<;>first|rfl|cases h
theorem JQ : ∀ {cs:u_},EJ cs=true->cs.map (BH σ)=cs
 | [],_=>rfl
 | c::r,h=>by
  simp only[EJ]at h;cases h1:vt c<;>simp only[h1,cond_true,cond_false]at h
  ·cases h
  ·rw[ya,Af2 h1,JQ h]
theorem Af1 {k:Nat} {v:AV} (h:vt v=true):NM k v=false:=by cases v<;>first|rfl|cases h
theorem lO {k:Nat} : ∀ {cs:u_},EJ cs=true->J0 k cs=false
 | [],_=>rfl
 | c::r,h=>by
  simp only[EJ]at h;cases h1:vt c<;>simp only[h1,cond_true,cond_false]at h
  ·cases h
  ·simp only[J0,Af1 h1,lO h,cond_false]
theorem AfV (v:AV):cv v = .any\/(cv v=v/\BM σ v=v):=by
 cases v with
 | agg cs =>
  simp only[cv];cases h:EJ cs
  ·exact Or.inl rfl
  ·exact Or.inr ⟨rfl,by simp only[BM,BT,JQ h]⟩
 | c5 vs=>cases vs with
  | nil=>exact Or.inr ⟨rfl,rfl⟩
  | cons=>exact Or.inl rfl
 | fn p f g cs=>cases cs with
  | nil=>exact Or.inr ⟨rfl,rfl⟩
  | cons=>exact Or.inl rfl
 | _=>first|exact Or.inl rfl|exact Or.inr ⟨rfl,rfl⟩
theorem AfS {k:Nat} (v:AV):NN k (cv v)=false:=by
 cases v with
 | agg cs =>
  simp only[cv];cases h:EJ cs
  ·rfl
  ·exact lO h
 | c5 vs=>cases vs<;>rfl
 | fn p f g cs=>cases cs<;>rfl
 | _=>rfl
variable {tm:Tm} {M:Mem} {st:St}
theorem RX.ev (h:RX σ tm M st) {x:AU} {v:AV} (e:ex tm x=v) (hv:v ≠ .any):st.ev x=BM σ v:=by
 cases x with
 | t n =>
  simp only[ex]at e;rcases h.tm n with h|h
  ·exact absurd (e.symm.trans h) hv
  ·rw[e]at h;exact h
 | c u =>
  simp only[ex]at e;rcases AfV (σ:=σ) u with h|⟨h,h'⟩
  ·exact absurd (e.symm.trans h) hv
  ·rw[<-e,h,h'];rfl
theorem yT {k:Nat} (h:JF k tm=false) (x:AU):NN k (ex tm x)=false:=by
 cases x with
 | t n=>exact Y5 h n
 | c u=>exact AfS u
theorem Vr {k:Nat} {v:AV} {cs:u_} (h:NN k v=false) (e:cellsOf v=some cs):J0 k cs=false:=by
 cases v<;>simp only[cellsOf,xa,reduceCtorEq]at e<;>subst e<;>first|exact h|rfl|(simp only[NN,RC]at h;simp only[J0,h,cond_false])
theorem OA {v:AV} {cs:u_} (e:cellsOf v=some cs):cellsOf (BM σ v)=some (cs.map (BH σ)):=by
 cases v<;>simp only[cellsOf,xa,reduceCtorEq]at e<;>subst e<;>rfl
def BF.flat:BF->Prop
 | .mx rows => ∀ (i:Nat) (x:Nat × o_),rows[i]? = some (some x)->False
 | .hx _ _ _=>False
 | .vw _ _=>False
 | _=>True
theorem EW {M:Mem} {k s:Nat} {c:BF} (h:b9 M k=some (s,c)):a9 M k 0=some c:=by simp [a9,h]
theorem IB {M:Mem} {k t:Nat} {c:BF} (h:a9 M k t=some c) : ∃ s c0,b9 M k=some (s,c0)/\(t=0->c=c0)/\(∀ i,t=i+1 -> ∃ rows z es,((c0 = .mx rows \/ ∃ a v,c0 = .hx a v rows) \/ ∃ w,c0 = .vw w rows)/\rows[i]? = some (some (z,es))/\c = .rw z es):=by
 unfold a9 at h;cases hm:b9 M k with
 | none=>simp [hm]at h
 | some x =>
  obtain ⟨s,c0⟩:=x;simp only[hm]at h;refine ⟨s,c0,rfl,?_,?_⟩
  ·rintro rfl;exact (sa h).symm
  ·rintro i rfl
   cases c0 with
   | mx rows =>
    simp only at h;cases hr:rows[i]? with
    | none=>simp [hr]at h
    | some r =>
     cases r with
     | none=>simp [hr]at h
     | some ze=>obtain ⟨z,es⟩:=ze;simp only[hr,xa]at h;exact ⟨rows,z,es,Or.inl (Or.inl rfl),hr,h.symm⟩
   | hx a v rows =>
    simp only at h;cases hr:rows[i]? with
    | none=>simp [hr]at h
    | some r =>
     cases r with
     | none=>simp [hr]at h
     | some ze=>obtain ⟨z,es⟩:=ze;simp only[hr,xa]at h;exact ⟨rows,z,es,Or.inl (Or.inr ⟨a,v,rfl⟩),hr,h.symm⟩
   | vw w rows =>
    simp only at h;cases hr:rows[i]? with
    | none=>simp [hr]at h
    | some r =>
     cases r with
     | none=>simp [hr]at h
     | some ze=>obtain ⟨z,es⟩:=ze;simp only[hr,xa]at h;exact ⟨rows,z,es,Or.inr ⟨w,rfl⟩,hr,h.symm⟩
   | _=>simp at h
theorem L7 {M:Mem} {k s:Nat} {c:BF} {j t:Nat} (h:j≠k):a9 ((k,s,c)::M) j t=a9 M j t:=by
 simp only[a9,b9,GJ.2 h,cond_false]
theorem TG {M:Mem} {k s:Nat} {c:BF}:a9 ((k,s,c)::M) k 0=some c:=by simp [a9,b9]
theorem YV {M:Mem} {k s:Nat} {c:BF} (hc:c.flat) {t:Nat} {c':BF} (h:a9 ((k,s,c)::M) k t=some c'):t=0/\c'=c:=by
 cases t with
 | zero=>rw[TG]at h;exact ⟨rfl,(sa h).symm⟩
 | succ i =>
  simp only[a9,b9,yb,cond_true]at h;cases c with
  | mx rows =>
   simp only at h;split at h
   ·rename_i z es hr
    exact (hc i (z,es) hr).elim
   ·cases h
  | hx a v rows=>exact hc.elim
  | vw w rows=>exact hc.elim
  | _=>simp at h
theorem Ak4 {σ σ':GA} {k k':Nat} {rows:List (P')} (h:BF.flat (.mx rows)):CB σ k 0 rows=CB σ' k' 0 rows:=by
 apply Ka;intro j;rw[F4,F4];cases hr:rows[j]? with
 | none=>rfl
 | some r=>cases r with
  | none=>rfl
  | some x=>exact (h j x hr).elim
theorem RX.jb (h:RX σ tm M st) {s q:Nat} (hm:HU s M=false) (ht:JF s tm=false) (c:BF) (hf:c.flat) (hc:JE s c=false) (hl:c.ma=true->FP q=true) :
  RX (DD σ s λ_=>(q,st.own.g7 q)) tm ((s,q,c)::M) ⟨st.tm,st.own.put q ((st.own q).new (c.c9 σ s))⟩:=by
 have Qb : ∀ j t c',a9 M j t=some c'->((st.own.put q ((st.own q).new (c.c9 σ s))) (σ j t).1).c9 (σ j t).2=(st.own (σ j t).1).c9 (σ j t).2:=by
  intro j t c' e;by_cases hs:(σ j t).1=q
  ·have ho:=h.sat.old _ _ _ e
   rw[hs]at ho ⊢;simp only[AJ.j7,CO.new];rw[if_neg O']
  ·rw[AJ.gv _ _ _ _ hs]
 have Dk : ∀ s',(st.own s').g7<=((st.own.put q ((st.own q).new (c.c9 σ s))) s').g7:=by
  intro s';by_cases hs:s'=q
  ·subst hs;simp only[AJ.j7,CO.new];omega
  ·rw[AJ.gv _ _ _ _ hs];exact Na _
 have k7 : ∀ j t c',j≠s->a9 ((s,q,c)::M) j t=some c'->a9 M j t=some c':=λ j t c' hj e=>by rwa [L7 hj]at e
 have Ef : ∀ j t c',a9 M j t=some c'->JE s c'=false/\j≠s:=by
  intro j t c' e;obtain ⟨s1,c0,g1,g2,g3⟩:=IB e;obtain ⟨g4,g5⟩:=XA hm _ _ _ g1;refine ⟨?_,g4⟩;cases t with
  | zero=>rw[g2 rfl];exact g5
  | succ i=>obtain ⟨rows,z,es,_,_,rfl⟩:=g3 i rfl;rfl
 refine ⟨λ j => ?_,⟨?_,?_,?_,?_,?_⟩⟩
 ·rw[jD (Y5 ht j)];exact h.tm j
 ·intro j s' c' e
  simp only[b9]at e;cases hb:za j s<;>simp only[hb,cond_true,cond_false]at e
  ·rw[CU _ (GJ.1 hb)];exact h.sat.site _ _ _ e
  ·simp only[xa,Qa]at e
   obtain ⟨rfl,rfl⟩:=e;rw[B1.1 hb,B4]
 ·intro j t c' e
  by_cases hj:j=s
  ·subst hj
   obtain ⟨rfl,rfl⟩:=YV hf e;have hb:c'.c9 (DD σ j λ_=>(q,st.own.g7 q)) j=c'.c9 σ j:=by
    cases c' with
    | bx cs=>simp only[JE]at hc;simp only[BF.c9,ZB hc]
    | rw z es=>rfl
    | bs z es=>simp only[JE]at hc;simp only[BF.c9,qT hc]
    | mx rows=>exact congrArg (EP.mk 1) (Ak4 hf)
    | hx a v rows=>exact hf.elim
    | vw w rows=>exact hf.elim
   rw[B4,hb];simp [AJ.j7,CO.new,AJ.g7]
  ·have e':=k7 j t c' hj e
   rw[CU _ hj,dJ (Ef j t c' e').1 hj];exact (Qb j t c' e').trans (h.sat.c9 _ _ _ e')
 ·intro j t c' e
  by_cases hj:j=s
  ·subst hj
   rw[B4];simp [AJ.j7,CO.new,AJ.g7]
  ·have e':=k7 j t c' hj e
   rw[CU _ hj];exact Ha (h.sat.old _ _ _ e') (Dk _)
 ·have nx : ∀ j t c',a9 M j t=some c'->σ j t=(q,st.own.g7 q)->False:=by
   intro j t c' e hh;have h2:=h.sat.old _ _ _ e;rw[hh]at h2;exact absurd h2 (Ib _)
  intro j t j' t' c1 c2 e1 e2 hj;by_cases h1:j=s<;>by_cases h2:j'=s
  ·subst h1;subst h2
   exact ⟨rfl,(YV hf e1).1.trans (YV hf e2).1.symm⟩
  ·subst h1
   rw[B4,CU _ h2]at hj;exact (nx _ _ _ (k7 _ _ _ h2 e2) hj.symm).elim
  ·subst h2
   rw[B4,CU _ h1]at hj;exact (nx _ _ _ (k7 _ _ _ h1 e1) hj).elim
  ·rw[CU _ h1,CU _ h2]at hj
   exact h.sat.inj _ _ _ _ _ _ (k7 _ _ _ h1 e1) (k7 _ _ _ h2 e2) hj
 ·intro j t c' e hw
  by_cases hj:j=s
  ·subst hj
   obtain ⟨rfl,rfl⟩:=YV hf e;rw[B4];exact hl hw
  ·rw[CU _ hj];exact h.sat.low _ _ _ (k7 j t c' hj e) hw
theorem OT {k j:Nat} {x:Nat × BF} : ∀ {M:Mem},b9 (o6 k M) j=some x->j≠k/\b9 M j=some x
 | [],e=>by cases e
 | (i,s,c)::r,e=>by
  simp only[o6]at e;cases hb:za k i<;>simp only[hb,cond_true,cond_false]at e
  ·simp only[b9]at e ⊢
   cases hj:za j i<;>simp only[hj,cond_true,cond_false]at e ⊢
   ·exact OT e
   ·exact ⟨λ e'=>GJ.1 hb (e'.symm.trans (B1.1 hj)),e⟩
  ·obtain ⟨h1,h2⟩:=OT e
   refine ⟨h1,?_⟩;simp only[b9];rw[GJ.2 (λ e'=>h1 (e'.trans (B1.1 hb).symm))];exact h2
theorem W5 {own:AJ} {p:Nat × Nat} {x:Option EP} {q:Nat × Nat} (h:q≠p):((own.put p.1 ((own p.1).q6 p.2 x)) q.1).c9 q.2=(own q.1).c9 q.2:=by
 by_cases hs:q.1=p.1
 ·rw[hs,AJ.j7]
  simp only[CO.q6];rw[if_neg (λ e=>h (Dc hs e))]
 ·rw[AJ.gv _ _ _ _ hs]
theorem iH {own:AJ} {p:Nat × Nat} {x:Option EP}:((own.put p.1 ((own p.1).q6 p.2 x)) p.1).c9 p.2=x:=by simp [AJ.j7,CO.q6]
theorem bF {own:AJ} {p:Nat × Nat} {x:Option EP} (s:Nat):((own.put p.1 ((own p.1).q6 p.2 x)) s).g7=(own s).g7:=by
 by_cases hs:s=p.1
 ·subst hs;rw[AJ.j7];rfl
 ·rw[AJ.gv _ _ _ _ hs]
theorem RX.Rx (h:RX σ tm M st) {k s:Nat} {c:BF} (e:b9 M k=some (s,c)) (hf:c.flat) (c':BF) (om:c'.flat) (hir:c'.ma=true->c.ma=true) :
  RX σ tm ((k,s,c')::M) ⟨st.tm,st.own.put s ((st.own s).q6 (σ k 0).2 (some (c'.c9 σ k)))⟩:=by
 have hs:=h.sat.site _ _ _ e;subst hs;have e0:=EW e;have hg : ∀ j t c1,a9 ((k,(σ k 0).1,c')::M) j t=some c1->(j=k/\t=0/\c1=c')\/(j≠k/\a9 M j t=some c1):=by
  intro j t c1 e1;by_cases hj:j=k
  ·subst hj
   obtain ⟨rfl,rfl⟩:=YV om e1;exact Or.inl ⟨rfl,rfl,rfl⟩
  ·rw[L7 hj]at e1
   exact Or.inr ⟨hj,e1⟩
 have kg : ∀ j t c1,a9 ((k,(σ k 0).1,c')::M) j t=some c1 -> ∃ c2,a9 M j t=some c2:=by
  intro j t c1 e1;rcases hg j t c1 e1 with ⟨rfl,rfl,rfl⟩|⟨_,h2⟩
  ·exact ⟨c,e0⟩
  ·exact ⟨c1,h2⟩
 refine ⟨h.tm,⟨?_,?_,?_,?_,?_⟩⟩
 ·intro j s' c1 e1
  simp only[b9]at e1;cases hb:za j k<;>simp only[hb,cond_true,cond_false]at e1
  ·exact h.sat.site _ _ _ e1
  ·simp only[xa,Qa]at e1
   rw[B1.1 hb];exact e1.1
 ·intro j t c1 e1
  rcases hg j t c1 e1 with ⟨rfl,rfl,rfl⟩|⟨h1,h2⟩
  ·exact iH
  ·refine (W5 (λ he => ?_)).trans (h.sat.c9 _ _ _ h2)
   exact h1 (h.sat.inj _ _ _ _ _ _ h2 e0 he).1
 ·intro j t c1 e1
  obtain ⟨c2,e2⟩:=kg _ _ _ e1;show (σ j t).2<((st.own.put (σ k 0).1 ((st.own (σ k 0).1).q6 (σ k 0).2 (some (c'.c9 σ k)))) (σ j t).1).g7;rw[bF];exact h.sat.old _ _ _ e2
 ·intro j t j' t' c1 c2 e1 e2 hj
  obtain ⟨_,Gi⟩:=kg _ _ _ e1;obtain ⟨_,Cx⟩:=kg _ _ _ e2;exact h.sat.inj _ _ _ _ _ _ Gi Cx hj
 ·intro j t c1 e1 hw
  rcases hg j t c1 e1 with ⟨rfl,rfl,rfl⟩|⟨_,h2⟩
  ·exact h.sat.low _ _ _ e0 (hir hw)
  ·exact h.sat.low _ _ _ h2 hw
theorem gH {k t:Nat} {c:BF} (h:a9 M k (t+1)=some c):c.ma=true:=by
 obtain ⟨_,_,_,_,g3⟩:=IB h;obtain ⟨_,_,_,_,_,rfl⟩:=g3 t rfl;rfl
theorem NH {k j t:Nat} {c:BF} (h:a9 (o6 k M) j t=some c):j≠k/\a9 M j t=some c:=by
 obtain ⟨s,c0,g1,_⟩:=IB h;obtain ⟨h1,h2⟩:=OT g1;refine ⟨h1,?_⟩;unfold a9 at h ⊢;rw[g1]at h;rw[h2];exact h
theorem RX.kill (h:RX σ tm M st) {k s:Nat} {c:BF} (e:b9 M k=some (s,c)) :
  RX σ tm (o6 k M) ⟨st.tm,st.own.put s ((st.own s).q6 (σ k 0).2 none)⟩:=by
 have hs:=h.sat.site _ _ _ e;subst hs;have e0:=EW e;refine ⟨h.tm,⟨?_,?_,?_,?_,?_⟩⟩
 ·intro j s' c1 e1
  exact h.sat.site _ _ _ (OT e1).2
 ·intro j t c1 e1
  obtain ⟨hj,e1⟩:=NH e1;refine (W5 (λ he => ?_)).trans (h.sat.c9 _ _ _ e1);exact hj (h.sat.inj _ _ _ _ _ _ e1 e0 he).1
 ·intro j t c1 e1
  obtain ⟨hj,e1⟩:=NH e1;show (σ j t).2<((st.own.put (σ k 0).1 ((st.own (σ k 0).1).q6 (σ k 0).2 none)) (σ j t).1).g7;rw[bF];exact h.sat.old _ _ _ e1
 ·intro j t j' t' c1 c2 e1 e2 hj
  exact h.sat.inj _ _ _ _ _ _ (NH e1).2 (NH e2).2 hj
 ·intro j t c1 e1 hw
  exact h.sat.low _ _ _ (NH e1).2 hw
theorem RX.Ru (h:RX σ tm M st) {k s i z:Nat} {rows:List (P')} {es es':o_} (e:b9 M k=some (s,.mx rows)) (hr:rows[i]? = some (some (z,es))) (hl:es'.length=es.length) :
  RX σ tm ((k,s,.mx (rows.set i (some (z,es'))))::M) ⟨st.tm,st.own.put (σ k (i+1)).1 ((st.own (σ k (i+1)).1).q6 (σ k (i+1)).2 (some ⟨z,es'⟩))⟩:=by
 have e1:a9 M k (i+1)=some (.rw z es):=by simp [a9,e,hr]
 have hi:i<rows.length:=(zS hr).1;have iy:CB σ k 0 (rows.set i (some (z,es')))=CB σ k 0 rows:=by
  apply Ka;intro j;rw[F4,F4];by_cases hj:i=j
  ·subst hj;rw[ja hi,hr];simp [hl]
  ·rw[ea hj]
 have hg : ∀ j t c1,a9 ((k,s,.mx (rows.set i (some (z,es'))))::M) j t=some c1->(j=k/\t=i+1/\c1 = .rw z es')\/(¬ (j=k/\t=i+1) /\ ∃ c2,a9 M j t=some c2/\c2.c9 σ j=c1.c9 σ j):=by
  intro j t c1 g;by_cases hj:j=k
  ·subst hj
   cases t with
   | zero =>
    rw[TG]at g;obtain rfl:=sa g;exact Or.inr ⟨O',_,EW e,by simp only[BF.c9,iy]⟩
   | succ t =>
    simp only[a9,b9,yb,cond_true]at g;by_cases vi:i=t
    ·subst vi
     rw[ja hi]at g;exact Or.inl ⟨rfl,rfl,(sa g).symm⟩
    ·rw[ea vi]at g
     refine Or.inr ⟨O',c1,?_,rfl⟩;simp only[a9,e];exact g
  ·rw[L7 hj]at g
   exact Or.inr ⟨O',c1,g,rfl⟩
 have kg : ∀ j t c1,a9 ((k,s,.mx (rows.set i (some (z,es'))))::M) j t=some c1 -> ∃ c2,a9 M j t=some c2:=by
  intro j t c1 g;rcases hg j t c1 g with ⟨rfl,rfl,rfl⟩|⟨_,c2,h2,_⟩
  ·exact ⟨_,e1⟩
  ·exact ⟨c2,h2⟩
 refine ⟨h.tm,⟨?_,?_,?_,?_,?_⟩⟩
 ·intro j s' c1 g
  simp only[b9]at g;cases hb:za j k<;>simp only[hb,cond_true,cond_false]at g
  ·exact h.sat.site _ _ _ g
  ·simp only[xa,Qa]at g
   rw[B1.1 hb,<-g.1];exact h.sat.site _ _ _ e
 ·intro j t c1 g
  rcases hg j t c1 g with ⟨rfl,rfl,rfl⟩|⟨h1,c2,h2,h3⟩
  ·exact iH
  ·rw[<-h3]
   refine (W5 (λ he => ?_)).trans (h.sat.c9 _ _ _ h2);exact h1 (h.sat.inj _ _ _ _ _ _ h2 e1 he)
 ·intro j t c1 g
  obtain ⟨c2,e2⟩:=kg _ _ _ g;show (σ j t).2<((st.own.put (σ k (i+1)).1 ((st.own (σ k (i+1)).1).q6 (σ k (i+1)).2 (some ⟨z,es'⟩))) (σ j t).1).g7;rw[bF];exact h.sat.old _ _ _ e2
 ·intro j t j' t' c1 c2 g1 g2 hj
  obtain ⟨_,Gi⟩:=kg _ _ _ g1;obtain ⟨_,Cx⟩:=kg _ _ _ g2;exact h.sat.inj _ _ _ _ _ _ Gi Cx hj
 ·intro j t c1 g hw
  obtain ⟨c2,e2⟩:=kg _ _ _ g;cases t with
  | zero =>
   by_cases hj:j=k
   ·subst hj;exact h.sat.low _ _ _ (EW e) rfl
   ·rw[L7 hj]at g;exact h.sat.low _ _ _ g hw
  | succ t=>exact h.sat.low _ _ _ e2 (gH e2)
section
variable {k:Nat} {f:Nat->Nat × Nat}
theorem qU {v:AV} (hf:f 0=σ k 0) (h:QJ k v=false):BH (DD σ k f) v=BH σ v:=by
 cases v with
 | row j t z o n =>
  simp only[QJ]at h;cases hb:za j k
  ·simp only[BH,CU f (GJ.1 hb)]
  ·obtain rfl:=B1.1 hb
   simp only[hb,cond_true]at h;cases t with
   | zero=>simp only[BH,B4,hf]
   | succ t=>cases h
 | ptr j t a b =>
  simp only[QJ]at h;cases hb:za j k
  ·simp only[BH,CU f (GJ.1 hb)]
  ·obtain rfl:=B1.1 hb
   simp only[hb,cond_true]at h;cases t with
   | zero=>simp only[BH,B4,hf]
   | succ t=>cases h
 | _=>rfl
theorem bY (hf:f 0=σ k 0) : ∀ {cs:u_},OD k cs=false->cs.map (BH (DD σ k f))=cs.map (BH σ)
 | [],_=>rfl
 | c::r,h=>by
  simp only[OD]at h;cases h1:QJ k c<;>simp only[h1,cond_true,cond_false]at h
  ·rw[ya,ya,qU hf h1,bY hf h]
  ·cases h
theorem Xm (hf:f 0=σ k 0) : ∀ {es:o_},X4 k es=false->(es.map λ cs=>cs.map (BH (DD σ k f)))=es.map λ cs=>cs.map (BH σ)
 | [],_=>rfl
 | c::r,h=>by
  simp only[X4]at h;cases h1:OD k c<;>simp only[h1,cond_true,cond_false]at h
  ·rw[ya,ya,bY hf h1,Xm hf h]
  ·cases h
theorem bZ {v:AV} (hf:f 0=σ k 0) (h:V5 k v=false):BT (DD σ k f) v=BT σ v:=by
 cases v with
 | agg cs=>simp only[V5]at h;simp only[BT,bY hf h]
 | fn p f g cs=>simp only[V5]at h;simp only[BT,bY hf h]
 | row a b c d e=>exact qU (v := .row a b c d e) hf h
 | ptr a b c d=>exact qU (v := .ptr a b c d) hf h
 | _=>rfl
theorem Xn (hf:f 0=σ k 0) : ∀ {cs:u_},X3 k cs=false->cs.map (BT (DD σ k f))=cs.map (BT σ)
 | [],_=>rfl
 | c::r,h=>by
  simp only[X3]at h;cases h1:V5 k c<;>simp only[h1,cond_true,cond_false]at h
  ·rw[ya,ya,bZ hf h1,Xn hf h]
  ·cases h
theorem Xp {v:AV} (hf:f 0=σ k 0) (h:R7 k v=false):BM (DD σ k f) v=BM σ v:=by
 cases v with
 | c5 cs=>simp only[R7]at h;simp only[BM,Xn hf h]
 | agg cs=>exact bZ (v := .agg cs) hf h
 | fn p f g cs=>exact bZ (v := .fn p f g cs) hf h
 | row a b c d e=>exact bZ (v := .row a b c d e) hf h
 | ptr a b c d=>exact bZ (v := .ptr a b c d) hf h
 | _=>rfl
theorem kV : ∀ {tm:Tm},K4 k tm=false -> ∀ j,R7 k (tg tm j)=false
 | [],_,_=>rfl
 | (i,v)::r,h,j=>by
  simp only[K4]at h;cases h1:R7 k v<;>simp only[h1,cond_true,cond_false]at h
  ·simp only[tg]
   cases za j i
   ·exact kV h j
   ·exact h1
  ·cases h
theorem kU : ∀ {M:Mem},JN k M=false -> ∀ j s c,b9 M j=some (s,c)->OC k c=false
 | [],_,_,_,_,e=>by cases e
 | (i,s0,c0)::r,h,j,s,c,e=>by
  simp only[JN]at h;cases h1:OC k c0<;>simp only[h1,cond_true,cond_false]at h
  ·simp only[b9]at e
   cases h2:za j i<;>simp only[h2,cond_true,cond_false]at e
   ·exact kU h j s c e
   ·simp only[xa,Qa]at e
    obtain ⟨_,rfl⟩:=e;exact h1
  ·cases h
theorem tR {c:BF} {j:Nat} (hf:f 0=σ k 0) (h:OC k c=false) (hj:j≠k):c.c9 (DD σ k f) j=c.c9 σ j:=by
 cases c with
 | bx cs=>simp only[OC]at h;simp only[BF.c9,bY hf h]
 | rw z es=>rfl
 | bs z es=>simp only[OC]at h;simp only[BF.c9,Xm hf h]
 | mx rows=>simp only[BF.c9];rw[TI rows 0 λ i _=>by rw[CU f hj]]
 | hx a v rows=>simp only[BF.c9];rw[TI rows 0 λ i _=>by rw[CU f hj]]
 | vw w rows=>simp only[BF.c9];rw[TI rows 0 λ i _=>by rw[CU f hj]]
end
theorem RX.Ep (h:RX σ tm M st) {k k2 s s2 i z:Nat} {rows:List (P')} {es:o_} {c0:BF} (e:b9 M k=some (s,c0)) (ib:c0 = .mx rows \/ ∃ v,c0 = .hx i v rows) (e2:b9 M k2=some (s2,.rw z es)) (hk:k≠k2) (bp:K4 k tm=false) (oe:JN k M=false) (hi:i<rows.length) :
  RX (DD σ k λ t=>if t=i+1 then σ k2 0 else σ k t) tm ((k,s,.mx (rows.set i (some (z,es))))::o6 k2 M) ⟨st.tm,st.own.put s ((st.own s).q6 (σ k 0).2 (some ⟨1,(CB σ k 0 rows).set i [.row (σ k2 0).1 (σ k2 0).2 z 0 es.length]⟩))⟩:=by
 have hs:=h.sat.site _ _ _ e;subst hs;have r0:=EW e;have r2:=EW e2;have f0:(λ t=>if t=i+1 then σ k2 0 else σ k t) 0=σ k 0:=Z'
 have iy:CB (DD σ k λ t=>if t=i+1 then σ k2 0 else σ k t) k 0 (rows.set i (some (z,es)))=(CB σ k 0 rows).set i [.row (σ k2 0).1 (σ k2 0).2 z 0 es.length]:=by
  apply Ka;intro j;rw[F4,B4];by_cases hj:i=j
  ·subst hj
   rw[ja hi,ja (by rw[F5];exact hi)];simp
  ·rw[ea hj,ea hj,F4]
   congr 1;funext r
   cases r with
   | none=>rfl
   | some x=>simp only[Oa];rw[if_neg O']
 have hg : ∀ j t c,a9 ((k,(σ k 0).1,.mx (rows.set i (some (z,es))))::o6 k2 M) j t=some c ->
   (j=k/\t=0/\c = .mx (rows.set i (some (z,es))))\/(j=k/\t=i+1/\c = .rw z es)\/(j=k/\t≠0/\t≠i+1/\a9 M k t=some c)\/(j≠k/\j≠k2/\a9 M j t=some c):=by
  intro j t c g;by_cases hj:j=k
  ·subst hj
   cases t with
   | zero=>rw[TG]at g;exact Or.inl ⟨rfl,rfl,(sa g).symm⟩
   | succ t =>
    simp only[a9,b9,yb,cond_true]at g;by_cases vi:i=t
    ·subst vi
     rw[ja hi]at g;exact Or.inr (Or.inl ⟨rfl,rfl,(sa g).symm⟩)
    ·rw[ea vi]at g
     refine Or.inr (Or.inr (Or.inl ⟨rfl,O',O',?_⟩));rcases ib with rfl|⟨v,rfl⟩
     ·simp only[a9,e]
      exact g
     ·simp only[a9,e]
      exact g
  ·rw[L7 hj]at g
   obtain ⟨g1,g2⟩:=NH g;exact Or.inr (Or.inr (Or.inr ⟨hj,g1,g2⟩))
 have Nr : ∀ j t c,a9 M j t=some c->OC k c=false:=by
  intro j t c g;obtain ⟨s1,c0,g1,g2,g3⟩:=IB g;cases t with
  | zero=>rw[g2 rfl];exact kU oe _ _ _ g1
  | succ t=>obtain ⟨_,_,_,_,_,rfl⟩:=g3 t rfl;rfl
 refine ⟨λ j => ?_,⟨?_,?_,?_,?_,?_⟩⟩
 ·rw[Xp (f:=λ t=>if t=i+1 then σ k2 0 else σ k t) f0 (kV bp j)];exact h.tm j
 ·intro j s' c g
  simp only[b9]at g;cases hb:za j k<;>simp only[hb,cond_true,cond_false]at g
  ·rw[CU _ (GJ.1 hb)];exact h.sat.site _ _ _ (OT g).2
  ·simp only[xa,Qa]at g
   rw[B1.1 hb,B4,<-g.1];simp
 ·intro j t c g
  rcases hg j t c g with ⟨rfl,rfl,rfl⟩|⟨rfl,rfl,rfl⟩|⟨rfl,h0,h1,g2⟩|⟨h0,h1,g2⟩
  ·rw[B4]
   simp only[BF.c9,iy];exact iH
  ·rw[B4]
   simp only[if_true];exact (W5 (λ he=>hk (h.sat.inj _ _ _ _ _ _ r2 r0 he).1.symm)).trans (h.sat.c9 _ _ _ r2)
  ·rw[B4]
   simp only[h1,if_false];have hb:c.c9 (DD σ j λ t=>if t=i+1 then σ k2 0 else σ j t) j=c.c9 σ j:=by
    obtain ⟨_,_,_,_,g3⟩:=IB g2;obtain ⟨t',rfl⟩ : ∃ t',t=t'+1:=⟨t-1,O'⟩;obtain ⟨_,_,_,_,_,rfl⟩:=g3 t' rfl;rfl
   rw[hb];exact (W5 (λ he=>h0 (h.sat.inj _ _ _ _ _ _ g2 r0 he).2)).trans (h.sat.c9 _ _ _ g2)
  ·rw[CU _ h0,tR (f:=λ t=>if t=i+1 then σ k2 0 else σ k t) f0 (Nr _ _ _ g2) h0]
   exact (W5 (λ he=>h0 (h.sat.inj _ _ _ _ _ _ g2 r0 he).1)).trans (h.sat.c9 _ _ _ g2)
 ·intro j t c g
  rw[bF];rcases hg j t c g with ⟨rfl,rfl,rfl⟩|⟨rfl,rfl,rfl⟩|⟨rfl,h0,h1,g2⟩|⟨h0,h1,g2⟩
  ·rw[B4];simpa using h.sat.old _ _ _ r0
  ·rw[B4];simpa using h.sat.old _ _ _ r2
  ·rw[B4];simp only[h1,if_false];exact h.sat.old _ _ _ g2
  ·rw[CU _ h0];exact h.sat.old _ _ _ g2
 ·-- each name is that of Ga in the old memory
  have hold : ∀ j t c,a9 ((k,(σ k 0).1,.mx (rows.set i (some (z,es))))::o6 k2 M) j t=some c -> ∃ j0 t0 c0,a9 M j0 t0=some c0/\(DD σ k λ t=>if t=i+1 then σ k2 0 else σ k t) j t=σ j0 t0/\((j0=k2/\t0=0/\j=k/\t=i+1)\/(j0=j/\t0=t/\j≠k2)):=by
   intro j t c g;rcases hg j t c g with ⟨rfl,rfl,rfl⟩|⟨rfl,rfl,rfl⟩|⟨rfl,h0,h1,g2⟩|⟨h0,h1,g2⟩
   ·exact ⟨_,_,_,r0,by rw[B4];simp,Or.inr ⟨rfl,rfl,hk⟩⟩
   ·exact ⟨_,_,_,r2,by rw[B4];simp,Or.inl ⟨rfl,rfl,rfl,rfl⟩⟩
   ·exact ⟨_,_,_,g2,by rw[B4];simp [h1],Or.inr ⟨rfl,rfl,hk⟩⟩
   ·exact ⟨_,_,_,g2,by rw[CU _ h0],Or.inr ⟨rfl,rfl,h1⟩⟩
  intro j t j' t' c c' g g' hj;obtain ⟨j0,t0,c0,a1,a2,a3⟩:=hold j t c g;obtain ⟨j1,t1,c1,b1,b2,b3⟩:=hold j' t' c' g';rw[a2,b2]at hj;obtain ⟨q1,q2⟩:=h.sat.inj _ _ _ _ _ _ a1 b1 hj;rcases a3 with ⟨x1,x2,x3,x4⟩|⟨x1,x2,x3⟩<;>rcases b3 with ⟨y1,y2,y3,y4⟩|⟨y1,y2,y3⟩
  ·exact ⟨x3.trans y3.symm,x4.trans y4.symm⟩
  ·exact absurd (y1.symm.trans (q1.symm.trans x1)) y3
  ·exact absurd (x1.symm.trans (q1.trans y1)) x3
  ·exact ⟨x1.symm.trans (q1.trans y1),x2.symm.trans (q2.trans y2)⟩
 ·intro j t c g hw
  rcases hg j t c g with ⟨rfl,rfl,rfl⟩|⟨rfl,rfl,rfl⟩|⟨rfl,h0,h1,g2⟩|⟨h0,h1,g2⟩
  ·rw[B4];simpa using h.sat.low _ _ _ r0 (by rcases ib with rfl|⟨v,rfl⟩<;>rfl)
  ·rw[B4];simpa using h.sat.low _ _ _ r2 rfl
  ·rw[B4];simp only[h1,if_false];exact h.sat.low _ _ _ g2 hw
  ·rw[CU _ h0];exact h.sat.low _ _ _ g2 hw
theorem WR {own:AJ} {q t:Nat} {b:EP} {p:Nat × Nat} (h:p≠(q,t)) (ho:p.2<(own p.1).g7):((own.put q (((own q).q6 t none).new b)) p.1).c9 p.2=(own p.1).c9 p.2:=by
 by_cases hs:p.1=q
 ·rw[hs]at ho ⊢
  rw[AJ.j7];simp only[CO.new,CO.q6];have h1 : ¬ p.2=(own q).g7:=O'
  have h2 : ¬ p.2=t:=λ e=>h (Dc hs e)
  simp only[h1,h2,if_false]
 ·rw[AJ.gv _ _ _ _ hs]
theorem WS {own:AJ} {q t:Nat} {b:EP} (s:Nat):(own s).g7<=((own.put q (((own q).q6 t none).new b)) s).g7:=by
 by_cases hs:s=q
 ·subst hs;rw[AJ.j7];simp only[CO.new,CO.q6];omega
 ·rw[AJ.gv _ _ _ _ hs];exact Na _
theorem RX.Lo (h:RX σ tm M st) {s key sk i z:Nat} {rows:List (P')} {es es':o_} (e:b9 M key=some (sk,.mx rows)) (hr:rows[i]? = some (some (z,es))) (hm:HU s M=false) (ht:JF s tm=false) :
  RX (DD σ s λ_=>((σ key (i+1)).1,st.own.g7 (σ key (i+1)).1)) tm ((s,(σ key (i+1)).1,.rw z es')::(key,sk,.hx i (.row (σ key (i+1)).1 (σ key (i+1)).2 z 0 es.length) (rows.set i none))::o6 key M)
   ⟨st.tm,st.own.put (σ key (i+1)).1 (((st.own (σ key (i+1)).1).q6 (σ key (i+1)).2 none).new ⟨z,es'⟩)⟩:=by
 have r0:=EW e;have e1:a9 M key (i+1)=some (.rw z es):=by simp [a9,e,hr]
 have hi:i<rows.length:=(zS hr).1;have Dv:key≠s:=(XA hm _ _ _ e).1;have iy:(CB (DD σ s λ_=>((σ key (i+1)).1,st.own.g7 (σ key (i+1)).1)) key 0 (rows.set i none)).set i [.row (σ key (i+1)).1 (σ key (i+1)).2 z 0 es.length]=CB σ key 0 rows:=by
  apply Ka;intro j;by_cases hj:i=j
  ·subst hj
   rw[ja (by rw[F5,List.length_set];exact hi),F4,hr];simp
  ·rw[ea hj,F4,F4,ea hj,CU _ Dv]
 have Ef : ∀ j t c',a9 M j t=some c'->JE s c'=false/\j≠s:=by
  intro j t c' g;obtain ⟨s1,c0,g1,g2,g3⟩:=IB g;obtain ⟨g4,g5⟩:=XA hm _ _ _ g1;refine ⟨?_,g4⟩;cases t with
  | zero=>rw[g2 rfl];exact g5
  | succ i=>obtain ⟨rows,z,es,_,_,rfl⟩:=g3 i rfl;rfl
 have hg : ∀ j t c,a9 ((s,(σ key (i+1)).1,.rw z es')::(key,sk,.hx i (.row (σ key (i+1)).1 (σ key (i+1)).2 z 0 es.length) (rows.set i none))::o6 key M) j t=some c ->
   (j=s/\t=0/\c = .rw z es')\/(j=key/\t=0/\c = .hx i (.row (σ key (i+1)).1 (σ key (i+1)).2 z 0 es.length) (rows.set i none))\/(j≠s /\ ¬ (j=key/\t=0) /\ ¬ (j=key/\t=i+1)/\(j=key -> ∃ z es,c = .rw z es)/\a9 M j t=some c):=by
  intro j t c g;by_cases hj:j=s
  ·subst hj
   obtain ⟨rfl,rfl⟩:=YV (c := .rw z es') trivial g;exact Or.inl ⟨rfl,rfl,rfl⟩
  ·rw[L7 hj]at g
   by_cases hk:j=key
   ·subst hk
    cases t with
    | zero=>rw[TG]at g;exact Or.inr (Or.inl ⟨rfl,rfl,(sa g).symm⟩)
    | succ t =>
     simp only[a9,b9,yb,cond_true]at g;by_cases vi:i=t
     ·subst vi
      rw[ja hi]at g;cases g
     ·rw[ea vi]at g
      refine Or.inr (Or.inr ⟨hj,O',O',λ_ => ?_,?_⟩)
      ·split at g
       ·exact ⟨_,_,(sa g).symm⟩
       ·cases g
      ·simp only[a9,e]
       exact g
   ·rw[L7 hk]at g
    obtain ⟨g1,g2⟩:=NH g;exact Or.inr (Or.inr ⟨hj,O',O',λ h=>absurd h hk,g2⟩)
 refine ⟨λ j => ?_,⟨?_,?_,?_,?_,?_⟩⟩
 ·rw[jD (Y5 ht j)];exact h.tm j
 ·intro j s1 c g
  simp only[b9]at g;cases hb:za j s<;>simp only[hb,cond_true,cond_false]at g
  ·rw[CU _ (GJ.1 hb)]
   cases u4:za j key<;>simp only[u4,cond_true,cond_false]at g
   ·exact h.sat.site _ _ _ (OT g).2
   ·simp only[xa,Qa]at g
    rw[B1.1 u4,<-g.1];exact h.sat.site _ _ _ e
  ·simp only[xa,Qa]at g
   rw[B1.1 hb,B4,<-g.1]
 ·intro j t c g
  rcases hg j t c g with ⟨rfl,rfl,rfl⟩|⟨rfl,rfl,rfl⟩|⟨h0,h1,h2,h3,g2⟩
  ·rw[B4]
   simp [AJ.j7,CO.new,AJ.g7,CO.q6,BF.c9]
  ·rw[CU _ Dv]
   simp only[BF.c9,iy];exact (WR (λ he=>absurd (h.sat.inj _ _ _ _ _ _ r0 e1 he).2 O') (h.sat.old _ _ _ r0)).trans (h.sat.c9 _ _ _ r0)
  ·rw[CU _ h0,dJ (Ef _ _ _ g2).1 h0]
   exact (WR (λ he=>h2 (h.sat.inj _ _ _ _ _ _ g2 e1 he)) (h.sat.old _ _ _ g2)).trans (h.sat.c9 _ _ _ g2)
 ·intro j t c g
  rcases hg j t c g with ⟨rfl,rfl,rfl⟩|⟨rfl,rfl,rfl⟩|⟨h0,h1,h2,h3,g2⟩
  ·rw[B4]
   simp [AJ.j7,CO.new,AJ.g7,CO.q6]
  ·rw[CU _ Dv]
   exact Ha (h.sat.old _ _ _ r0) (WS _)
  ·rw[CU _ h0]
   exact Ha (h.sat.old _ _ _ g2) (WS _)
 ·have hold : ∀ j t c,a9 ((s,(σ key (i+1)).1,.rw z es')::(key,sk,.hx i (.row (σ key (i+1)).1 (σ key (i+1)).2 z 0 es.length) (rows.set i none))::o6 key M) j t=some c->(j=s/\t=0)\/(j≠s /\ ∃ c0,a9 M j t=some c0):=by
   intro j t c g;rcases hg j t c g with ⟨rfl,rfl,rfl⟩|⟨rfl,rfl,rfl⟩|⟨h0,h1,h2,h3,g2⟩
   ·exact Or.inl ⟨rfl,rfl⟩
   ·exact Or.inr ⟨Dv,_,r0⟩
   ·exact Or.inr ⟨h0,_,g2⟩
  have pc : ∀ j0 t0 c0,a9 M j0 t0=some c0->((σ key (i+1)).1,st.own.g7 (σ key (i+1)).1)≠σ j0 t0:=by
   intro j0 t0 c0 g he;have:=h.sat.old _ _ _ g
   rw[<-he]at this;exact absurd this (Ib _)
  intro j t j' t' c c' g g' hj;rcases hold j t c g with ⟨rfl,rfl⟩|⟨a1,c1,a2⟩<;>rcases hold j' t' c' g' with ⟨rfl,rfl⟩|⟨b1,c2,b2⟩
  ·exact ⟨rfl,rfl⟩
  ·rw[B4,CU _ b1]at hj;exact absurd hj (pc _ _ _ b2)
  ·rw[B4,CU _ a1]at hj;exact absurd hj.symm (pc _ _ _ a2)
  ·rw[CU _ a1,CU _ b1]at hj
   exact h.sat.inj _ _ _ _ _ _ a2 b2 hj
 ·intro j t c g hw
  rcases hg j t c g with ⟨rfl,rfl,rfl⟩|⟨rfl,rfl,rfl⟩|⟨h0,h1,h2,h3,g2⟩
  ·rw[B4];exact h.sat.low _ _ _ e1 rfl
  ·rw[CU _ Dv];exact h.sat.low _ _ _ r0 rfl
  ·rw[CU _ h0];exact h.sat.low _ _ _ g2 hw
theorem RX.view (h:RX σ tm M st) {k s:Nat} {c0:BF} {rows:List (P')} {w:N'} (e:b9 M k=some (s,c0)) (ib:c0 = .mx rows \/ ∃ w0,c0 = .vw w0 rows) :
  RX σ tm ((k,s,.vw w rows)::M) ⟨st.tm,st.own.put s ((st.own s).q6 (σ k 0).2 (some (BF.c9 σ k (.vw w rows))))⟩:=by
 have hs:=h.sat.site _ _ _ e;subst hs;have r0:=EW e;have hg : ∀ j t c,a9 ((k,(σ k 0).1,.vw w rows)::M) j t=some c->(j=k/\t=0/\c = .vw w rows)\/(¬ (j=k/\t=0)/\a9 M j t=some c):=by
  intro j t c g;by_cases hj:j=k
  ·subst hj
   cases t with
   | zero=>rw[TG]at g;exact Or.inl ⟨rfl,rfl,(sa g).symm⟩
   | succ t =>
    refine Or.inr ⟨O',?_⟩;simp only[a9,b9,yb,cond_true]at g;rcases ib with rfl|⟨w0,rfl⟩
    ·simp only[a9,e]
     exact g
    ·simp only[a9,e]
     exact g
  ·rw[L7 hj]at g
   exact Or.inr ⟨O',g⟩
 have kg : ∀ j t c1,a9 ((k,(σ k 0).1,.vw w rows)::M) j t=some c1 -> ∃ c2,a9 M j t=some c2:=by
  intro j t c1 g;rcases hg j t c1 g with ⟨rfl,rfl,rfl⟩|⟨_,h2⟩
  ·exact ⟨_,r0⟩
  ·exact ⟨_,h2⟩
 refine ⟨h.tm,⟨?_,?_,?_,?_,?_⟩⟩
 ·intro j s' c1 g
  simp only[b9]at g;cases hb:za j k<;>simp only[hb,cond_true,cond_false]at g
  ·exact h.sat.site _ _ _ g
  ·simp only[xa,Qa]at g
   rw[B1.1 hb];exact g.1
 ·intro j t c1 g
  rcases hg j t c1 g with ⟨rfl,rfl,rfl⟩|⟨h1,h2⟩
  ·exact iH
  ·refine (W5 (λ he => ?_)).trans (h.sat.c9 _ _ _ h2)
   exact h1 (h.sat.inj _ _ _ _ _ _ h2 r0 he)
 ·intro j t c1 g
  obtain ⟨c2,e2⟩:=kg _ _ _ g;show (σ j t).2<((st.own.put (σ k 0).1 ((st.own (σ k 0).1).q6 (σ k 0).2 _)) (σ j t).1).g7;rw[bF];exact h.sat.old _ _ _ e2
 ·intro j t j' t' c1 c2 g1 g2 hj
  obtain ⟨_,Gi⟩:=kg _ _ _ g1;obtain ⟨_,Cx⟩:=kg _ _ _ g2;exact h.sat.inj _ _ _ _ _ _ Gi Cx hj
 ·intro j t c1 g hw
  rcases hg j t c1 g with ⟨rfl,rfl,rfl⟩|⟨_,h2⟩
  ·exact h.sat.low _ _ _ r0 (by rcases ib with rfl|⟨w0,rfl⟩<;>rfl)
  ·exact h.sat.low _ _ _ h2 hw
theorem RX.Es (h:RX σ tm M st) {k s:Nat} {rows q7:List (P')} {w:N'} (e:b9 M k=some (s,.vw w rows)) (hl:q7.length=w.length)
  (hw : ∀ (i t:Nat),w[i]? = some t -> ∃ r,rows[t]? = some r/\q7[i]? = some r) (hi : ∀ (i i' t:Nat),w[i]? = some t->w[i']? = some t->i=i') (bp:K4 k tm=false) (oe:JN k M=false) :
  ∃ σ',RX σ' tm ((k,s,.mx q7)::M) st:=by
 have hs:=h.sat.site _ _ _ e;subst hs;have r0:=EW e;obtain ⟨f,hf⟩ : ∃ f:Nat->Nat × Nat,f=λ t=>match t with|0=>σ k 0|i+1=>match w[i]? with|some v=>σ k (v+1)|none=>σ k (i+1):=⟨_,rfl⟩
 have f0:f 0=σ k 0:=by rw[hf]
 have f1 : ∀ i v,w[i]? = some v->f (i+1)=σ k (v+1):=λ i v hv=>by rw[hf];simp only[hv]
 have Nr : ∀ j t c,a9 M j t=some c->OC k c=false:=by
  intro j t c g;obtain ⟨s1,c0,g1,g2,g3⟩:=IB g;cases t with
  | zero=>rw[g2 rfl];exact kU oe _ _ _ g1
  | succ t=>obtain ⟨_,_,_,_,_,rfl⟩:=g3 t rfl;rfl
 have Ft : ∀ i,i<q7.length -> ∃ v r,w[i]? = some v/\rows[v]? = some r/\q7[i]? = some r:=λ i hi=>by
  obtain ⟨v,hv⟩:=H' w i;obtain ⟨r,h1,h2⟩:=hw i v hv;exact ⟨v,r,hv,h1,h2⟩
 have iy:CB (DD σ k f) k 0 q7=w.map λ t=>((CB σ k 0 rows)[t]?).getD []:=by
  apply Ka;intro i;rw[F4,B4,Ma];by_cases w9:i<q7.length
  ·obtain ⟨v,r,h1,h2,h3⟩:=Ft i w9
   rw[h3,h1,va,va,F4,h2,va,Fb,Oa,Oa,f1 i v h1]
  ·rw[Ra O',Ra O'];rfl
 have hg : ∀ j t c,a9 ((k,(σ k 0).1,.mx q7)::M) j t=some c ->
   (j=k/\t=0/\c = .mx q7)\/(∃ i v,j=k/\t=i+1/\w[i]? = some v/\a9 M k (v+1)=some c)\/(j≠k/\a9 M j t=some c):=by
  intro j t c g;by_cases hj:j=k
  ·subst hj
   cases t with
   | zero=>rw[TG]at g;exact Or.inl ⟨rfl,rfl,(sa g).symm⟩
   | succ t =>
    simp only[a9,b9,yb,cond_true]at g;by_cases ct:t<q7.length
    ·obtain ⟨v,r,h1,h2,h3⟩:=Ft t ct
     refine Or.inr (Or.inl ⟨t,v,rfl,rfl,h1,?_⟩);rw[h3]at g;simp only[a9,e,h2];exact g
    ·rw[Ra O']at g;cases g
  ·rw[L7 hj]at g
   exact Or.inr (Or.inr ⟨hj,g⟩)
 have hcr : ∀ v c,a9 M k (v+1)=some c -> ∃ z es,c = .rw z es:=λ v c g=>by
  obtain ⟨_,_,_,_,g3⟩:=IB g;obtain ⟨_,z,es,_,_,rfl⟩:=g3 v rfl;exact ⟨z,es,rfl⟩
 refine ⟨DD σ k f,λ j => ?_,⟨?_,?_,?_,?_,?_⟩⟩
 ·rw[Xp f0 (kV bp j)];exact h.tm j
 ·intro j s' c g
  simp only[b9]at g;cases hb:za j k<;>simp only[hb,cond_true,cond_false]at g
  ·rw[CU _ (GJ.1 hb)];exact h.sat.site _ _ _ g
  ·simp only[xa,Qa]at g
   rw[B1.1 hb,B4,<-g.1,f0]
 ·intro j t c g
  rcases hg j t c g with ⟨rfl,rfl,rfl⟩|⟨i,v,rfl,rfl,h1,g2⟩|⟨h0,g2⟩
  ·rw[B4,f0]
   have:=h.sat.c9 _ _ _ r0
   simp only[BF.c9,iy]at this ⊢;exact this
  ·rw[B4,f1 i v h1]
   obtain ⟨z,es,rfl⟩:=hcr v c g2;exact h.sat.c9 _ _ _ g2
  ·rw[CU _ h0,tR f0 (Nr _ _ _ g2) h0]
   exact h.sat.c9 _ _ _ g2
 ·intro j t c g
  rcases hg j t c g with ⟨rfl,rfl,rfl⟩|⟨i,v,rfl,rfl,h1,g2⟩|⟨h0,g2⟩
  ·rw[B4,f0];exact h.sat.old _ _ _ r0
  ·rw[B4,f1 i v h1];exact h.sat.old _ _ _ g2
  ·rw[CU _ h0];exact h.sat.old _ _ _ g2
 ·have hold : ∀ j t c,a9 ((k,(σ k 0).1,.mx q7)::M) j t=some c -> ∃ j0 t0 c0,a9 M j0 t0=some c0/\(DD σ k f) j t=σ j0 t0/\((j=k/\j0=k/\((t=0/\t0=0) \/ ∃ i v,t=i+1/\t0=v+1/\w[i]? = some v))\/(j≠k/\j0=j/\t0=t)):=by
   intro j t c g;rcases hg j t c g with ⟨rfl,rfl,rfl⟩|⟨i,v,rfl,rfl,h1,g2⟩|⟨h0,g2⟩
   ·exact ⟨_,_,_,r0,by rw[B4,f0],Or.inl ⟨rfl,rfl,Or.inl ⟨rfl,rfl⟩⟩⟩
   ·exact ⟨_,_,_,g2,by rw[B4,f1 i v h1],Or.inl ⟨rfl,rfl,Or.inr ⟨i,v,rfl,rfl,h1⟩⟩⟩
   ·exact ⟨_,_,_,g2,by rw[CU _ h0],Or.inr ⟨h0,rfl,rfl⟩⟩
  intro j t j' t' c c' g g' hj;obtain ⟨j0,t0,c0,a1,a2,a3⟩:=hold j t c g;obtain ⟨j1,t1,c1,b1,b2,b3⟩:=hold j' t' c' g';rw[a2,b2]at hj;obtain ⟨q1,q2⟩:=h.sat.inj _ _ _ _ _ _ a1 b1 hj;rcases a3 with ⟨x1,x2,x3⟩|⟨x1,x2,x3⟩<;>rcases b3 with ⟨y1,y2,y3⟩|⟨y1,y2,y3⟩
  ·refine ⟨x1.trans y1.symm,?_⟩
   rcases x3 with ⟨x4,x5⟩|⟨i,v,x4,x5,x6⟩<;>rcases y3 with ⟨y4,y5⟩|⟨i',v',y4,y5,y6⟩
   ·omega
   ·omega
   ·omega
   ·obtain rfl:v=v':=O'
    have:=hi i i' v x6 y6
    omega
  ·exact absurd (y2.symm.trans (q1.symm.trans x2)) y1
  ·exact absurd (x2.symm.trans (q1.trans y2)) x1
  ·exact ⟨x2.symm.trans (q1.trans y2),x3.symm.trans (q2.trans y3)⟩
 ·intro j t c g hw
  rcases hg j t c g with ⟨rfl,rfl,rfl⟩|⟨i,v,rfl,rfl,h1,g2⟩|⟨h0,g2⟩
  ·rw[B4,f0];exact h.sat.low _ _ _ r0 rfl
  ·rw[B4,f1 i v h1];exact h.sat.low _ _ _ g2 (gH g2)
  ·rw[CU _ h0];exact h.sat.low _ _ _ g2 hw
theorem RX.Lq (h:RX σ tm M st) {s key s':Nat} {rows:List (P')} (e:b9 M key=some (s',.mx rows)) (hm:HU s M=false) (ht:JF s tm=false) :
  RX (DD σ s λ t=>match t with|0=>(s',st.own.g7 s')|i+1=>σ key (i+1)) tm ((s,s',.mx (rows++[none]))::o6 key M)
   ⟨st.tm,st.own.put s' (((st.own s').q6 (σ key 0).2 none).new ⟨1,CB σ key 0 rows++[[.nil]]⟩)⟩:=by
 have hs:=h.sat.site _ _ _ e;subst hs;have r0:=EW e;generalize hF:(λ t=>match t with|0=>((σ key 0).1,st.own.g7 (σ key 0).1)|i+1=>σ key (i+1):Nat->Nat × Nat)=F;have F0:F 0=((σ key 0).1,st.own.g7 (σ key 0).1):=by rw[<-hF]
 have F1 : ∀ i,F (i+1)=σ key (i+1):=by intro i;rw[<-hF]
 have iy:CB (DD σ s F) s 0 (rows++[none])=CB σ key 0 rows++[[.nil]]:=by
  apply Ka;intro j;rw[F4,B4];rcases eb j rows.length with hj|hj|hj
  ·rw[Ja hj,Ja (by rw[F5];exact hj),F4]
   congr 1;funext r
   cases r with
   | none=>rfl
   | some x=>simp only[Oa];rw[F1]
  ·subst hj
   rw[La (Na _),La (by rw[F5];exact Na _),F5];simp
  ·rw[Ra G',Ra (by simp [F5];omega)];rfl
 have Ef : ∀ j t c',a9 M j t=some c'->JE s c'=false/\j≠s:=by
  intro j t c' g;obtain ⟨s1,c0,g1,g2,g3⟩:=IB g;obtain ⟨g4,g5⟩:=XA hm _ _ _ g1;refine ⟨?_,g4⟩;cases t with
  | zero=>rw[g2 rfl];exact g5
  | succ i=>obtain ⟨rows,z,es,_,_,rfl⟩:=g3 i rfl;rfl
 have hg : ∀ j t c,a9 ((s,(σ key 0).1,.mx (rows++[none]))::o6 key M) j t=some c ->
   (j=s/\t=0/\c = .mx (rows++[none]))\/(j=s/\t≠0/\a9 M key t=some c)\/(j≠s/\j≠key/\a9 M j t=some c):=by
  intro j t c g;by_cases hj:j=s
  ·subst hj
   cases t with
   | zero=>rw[TG]at g;exact Or.inl ⟨rfl,rfl,(sa g).symm⟩
   | succ t =>
    simp only[a9,b9,yb,cond_true]at g;rcases eb t rows.length with nm|nm|nm
    ·rw[Ja nm]at g
     refine Or.inr (Or.inl ⟨rfl,O',?_⟩);simp only[a9,e];exact g
    ·subst nm
     rw[La (Na _),Ic]at g;simp at g
    ·rw[Ra G']at g;cases g
  ·rw[L7 hj]at g
   obtain ⟨g1,g2⟩:=NH g;exact Or.inr (Or.inr ⟨hj,g1,g2⟩)
 refine ⟨λ j => ?_,⟨?_,?_,?_,?_,?_⟩⟩
 ·rw[jD (Y5 ht j)];exact h.tm j
 ·intro j s1 c g
  simp only[b9]at g;cases hb:za j s<;>simp only[hb,cond_true,cond_false]at g
  ·rw[CU _ (GJ.1 hb)];exact h.sat.site _ _ _ (OT g).2
  ·simp only[xa,Qa]at g
   rw[B1.1 hb,B4,F0,<-g.1]
 ·intro j t c g
  rcases hg j t c g with ⟨rfl,rfl,rfl⟩|⟨rfl,h0,g2⟩|⟨h0,h1,g2⟩
  ·rw[B4,F0]
   simp only[BF.c9,iy];simp [AJ.j7,CO.new,AJ.g7,CO.q6]
  ·obtain ⟨t',rfl⟩ : ∃ t',t=t'+1:=⟨t-1,O'⟩
   rw[B4,F1];have hb:c.c9 (DD σ j F) j=c.c9 σ key:=by
    obtain ⟨_,_,_,_,g3⟩:=IB g2;obtain ⟨_,_,_,_,_,rfl⟩:=g3 t' rfl;rfl
   rw[hb];exact (WR (λ he=>absurd (h.sat.inj _ _ _ _ _ _ g2 r0 he).2 O') (h.sat.old _ _ _ g2)).trans (h.sat.c9 _ _ _ g2)
  ·rw[CU _ h0,dJ (Ef _ _ _ g2).1 h0]
   exact (WR (λ he=>h1 (h.sat.inj _ _ _ _ _ _ g2 r0 he).1) (h.sat.old _ _ _ g2)).trans (h.sat.c9 _ _ _ g2)
 ·intro j t c g
  rcases hg j t c g with ⟨rfl,rfl,rfl⟩|⟨rfl,h0,g2⟩|⟨h0,h1,g2⟩
  ·rw[B4,F0]
   simp [AJ.j7,CO.new,AJ.g7,CO.q6]
  ·obtain ⟨t',rfl⟩ : ∃ t',t=t'+1:=⟨t-1,O'⟩
   rw[B4,F1];exact Ha (h.sat.old _ _ _ g2) (WS _)
  ·rw[CU _ h0]
   exact Ha (h.sat.old _ _ _ g2) (WS _)
 ·have hold : ∀ j t c,a9 ((s,(σ key 0).1,.mx (rows++[none]))::o6 key M) j t=some c->(j=s/\t=0) \/ ∃ j0 t0 c0,a9 M j0 t0=some c0/\DD σ s F j t=σ j0 t0/\((j0=key/\t0=t/\j=s)\/(j0=j/\t0=t/\j≠key)):=by
   intro j t c g;rcases hg j t c g with ⟨rfl,rfl,rfl⟩|⟨rfl,h0,g2⟩|⟨h0,h1,g2⟩
   ·exact Or.inl ⟨rfl,rfl⟩
   ·obtain ⟨t',rfl⟩ : ∃ t',t=t'+1:=⟨t-1,O'⟩
    exact Or.inr ⟨_,_,_,g2,by rw[B4,F1],Or.inl ⟨rfl,rfl,rfl⟩⟩
   ·exact Or.inr ⟨_,_,_,g2,by rw[CU _ h0],Or.inr ⟨rfl,rfl,h1⟩⟩
  have pc : ∀ j0 t0 c0,a9 M j0 t0=some c0->DD σ s F s 0≠σ j0 t0:=by
   intro j0 t0 c0 g he;rw[B4,F0]at he;have:=h.sat.old _ _ _ g
   rw[<-he]at this;exact absurd this (Ib _)
  intro j t j' t' c c' g g' hj;rcases hold j t c g with ⟨rfl,rfl⟩|⟨j0,t0,c0,a1,a2,a3⟩<;>rcases hold j' t' c' g' with ⟨rfl,rfl⟩|⟨j1,t1,c1,b1,b2,b3⟩
  ·exact ⟨rfl,rfl⟩
  ·rw[b2]at hj;exact absurd hj (pc _ _ _ b1)
  ·rw[a2]at hj;exact absurd hj.symm (pc _ _ _ a1)
  ·rw[a2,b2]at hj
   obtain ⟨q1,q2⟩:=h.sat.inj _ _ _ _ _ _ a1 b1 hj;rcases a3 with ⟨x1,x2,x3⟩|⟨x1,x2,x3⟩<;>rcases b3 with ⟨y1,y2,y3⟩|⟨y1,y2,y3⟩
   ·exact ⟨x3.trans y3.symm,x2.symm.trans (q2.trans y2)⟩
   ·exact absurd (y1.symm.trans (q1.symm.trans x1)) y3
   ·exact absurd (x1.symm.trans (q1.trans y1)) x3
   ·exact ⟨x1.symm.trans (q1.trans y1),x2.symm.trans (q2.trans y2)⟩
 ·intro j t c g hw
  rcases hg j t c g with ⟨rfl,rfl,rfl⟩|⟨rfl,h0,g2⟩|⟨h0,h1,g2⟩
  ·rw[B4,F0];exact h.sat.low _ _ _ r0 rfl
  ·obtain ⟨t',rfl⟩ : ∃ t',t=t'+1:=⟨t-1,O'⟩
   rw[B4,F1];exact h.sat.low _ _ _ g2 hw
  ·rw[CU _ h0];exact h.sat.low _ _ _ g2 hw
theorem kT {k:Nat} {v:AV} (h:NM k v=false):QJ k v=false:=by
 cases v with
 | row j t z o n=>simp only[NM]at h;simp only[QJ,h,cond_false]
 | ptr j t a b=>simp only[NM]at h;simp only[QJ,h,cond_false]
 | _=>rfl
theorem Z2 {k:Nat} : ∀ {cs:u_},J0 k cs=false->OD k cs=false
 | [],_=>rfl
 | c::r,h=>by
  simp only[J0]at h;cases h1:NM k c<;>simp only[h1,cond_true,cond_false]at h
  ·simp only[OD,kT h1,cond_false,Z2 h]
  ·cases h
theorem tX {k:Nat} : ∀ {es:o_},U9 k es=false->X4 k es=false
 | [],_=>rfl
 | c::r,h=>by
  simp only[U9]at h;cases h1:J0 k c<;>simp only[h1,cond_true,cond_false]at h
  ·simp only[X4,Z2 h1,cond_false,tX h]
  ·cases h
theorem Z1 {k:Nat} {v:AV} (h:RC k v=false):V5 k v=false:=by
 cases v with
 | agg cs=>exact Z2 h
 | fn p f g cs=>exact Z2 h
 | row a b c d e=>exact kT (v := .row a b c d e) h
 | ptr a b c d=>exact kT (v := .ptr a b c d) h
 | _=>rfl
theorem tW {k:Nat} : ∀ {cs:u_},Y4 k cs=false->X3 k cs=false
 | [],_=>rfl
 | c::r,h=>by
  simp only[Y4]at h;cases h1:RC k c<;>simp only[h1,cond_true,cond_false]at h
  ·simp only[X3,Z1 h1,cond_false,tW h]
  ·cases h
theorem Afn {k:Nat} {v:AV} (h:NN k v=false):R7 k v=false:=by
 cases v with
 | c5 cs=>exact tW h
 | agg cs=>exact Z1 (v := .agg cs) h
 | fn p f g cs=>exact Z1 (v := .fn p f g cs) h
 | row a b c d e=>exact Z1 (v := .row a b c d e) h
 | ptr a b c d=>exact Z1 (v := .ptr a b c d) h
 | _=>rfl
theorem tZ {k:Nat} : ∀ {tm:Tm},JF k tm=false->K4 k tm=false
 | [],_=>rfl
 | (i,v)::r,h=>by
  simp only[JF]at h;cases h1:NN k v<;>simp only[h1,cond_true,cond_false]at h
  ·simp only[K4,Afn h1,cond_false,tZ h]
  ·cases h
theorem tY {k:Nat} : ∀ {M:Mem},HU k M=false->JN k M=false
 | [],_=>rfl
 | (i,s,c)::r,h=>by
  simp only[HU]at h;cases h0:za k i<;>simp only[h0,cond_true,cond_false]at h
  ·cases h1:JE k c<;>simp only[h1,cond_true,cond_false]at h
   ·have:OC k c=false:=by
     cases c with
     | bx cs=>exact Z2 h1
     | bs z es=>exact tX h1
     | _=>rfl
    simp only[JN,this,cond_false,tY h]
   ·cases h
  ·cases h
theorem RX.hid {M1 M2:Mem} (hm : ∀ k,b9 M1 k=b9 M2 k) (h:RX σ tm M1 st):RX σ tm M2 st:=by
 have hr : ∀ k t,a9 M1 k t=a9 M2 k t:=λ k t=>by simp only[a9,hm]
 refine ⟨h.tm,⟨λ k s c e => ?_,λ k t c e => ?_,λ k t c e => ?_,λ k t k' t' c c' e e' => ?_,λ k t c e hw => ?_⟩⟩
 ·rw[<-hm]at e;exact h.sat.site _ _ _ e
 ·rw[<-hr]at e;exact h.sat.c9 _ _ _ e
 ·rw[<-hr]at e;exact h.sat.old _ _ _ e
 ·rw[<-hr]at e e';exact h.sat.inj _ _ _ _ _ _ e e'
 ·rw[<-hr]at e;exact h.sat.low _ _ _ e hw
theorem RX.Rt (h:RX σ tm M st) {s q k2 s2 z:Nat} {es:o_} (e2:b9 M k2=some (s2,.rw z es)) (hk:s≠k2) (hm:HU s M=false) (ht:JF s tm=false) (hq:FP q=true) :
  ∃ σ',σ' s 0=(q,st.own.g7 q)/\RX σ' tm ((s,q,.mx [some (z,es)])::o6 k2 M) ⟨st.tm,st.own.put q ((st.own q).new ⟨1,[[.row (σ k2 0).1 (σ k2 0).2 z 0 es.length]]⟩)⟩:=by
 have dp:BF.flat (.mx [none]):=by
  intro i x hx;cases i with
  | zero=>simp at hx
  | succ i=>simp at hx
 have h1:=h.jb (s:=s) (q:=q) hm ht (.mx [none]) dp rfl (λ_=>hq);have Cx:b9 ((s,q,.mx [none])::M) k2=some (s2,.rw z es):=by
  simp only[b9,GJ.2 (λ e=>hk e.symm),cond_false];exact e2
 have oe:JN s ((s,q,.mx [none])::M)=false:=by simp only[JN,OC,cond_false,tY hm]
 have h2:=h1.Ep (k:=s) (s:=q) (k2:=k2) (i:=0) (rows:=[none]) (c0 := .mx [none]) (by simp [b9]) (Or.inl rfl) Cx hk (tZ ht) oe Z';refine ⟨DD σ s (λ t=>if t=0+1 then σ k2 0 else (q,st.own.g7 q)),?_,?_⟩
 ·rw[B4];simp
 ·have hσ:(DD (DD σ s λ_=>(q,st.own.g7 q)) s λ t=>if t=0+1 then (DD σ s λ_=>(q,st.own.g7 q)) k2 0 else (DD σ s λ_=>(q,st.own.g7 q)) s t)=DD σ s (λ t=>if t=0+1 then σ k2 0 else (q,st.own.g7 q)):=by
   funext j t
   by_cases hj:j=s
   ·subst hj;rw[B4,B4];simp only[B4,CU _ (λ e=>hk e.symm)]
   ·rw[CU _ hj,CU _ hj,CU _ hj]
  rw[hσ]at h2;have hM:o6 k2 ((s,q,BF.mx [none])::M)=(s,q,.mx [none])::o6 k2 M:=by
   simp only[o6,GJ.2 (λ e=>hk e.symm),cond_false]
  rw[hM]at h2;have ho : ∀ b b':EP,(st.own.put q ((st.own q).new b)).put q (((st.own.put q ((st.own q).new b)) q).q6 (st.own.g7 q) (some b'))=st.own.put q ((st.own q).new b'):=by
   intro b b';rw[AJ.tj,AJ.j7];congr 1;simp only[CO.q6,CO.new,AJ.g7,CO.mk.injEq,true_and];funext t'
   by_cases nm:t'=(st.own q).g7<;>simp [nm]
  have hn:(DD σ s λ_=>(q,st.own.g7 q)) s 0=(q,st.own.g7 q):=by rw[B4]
  have ic:(DD σ s λ_=>(q,st.own.g7 q)) k2=σ k2:=CU _ (λ e=>hk e.symm);simp only[hn,ic]at h2;rw[ho]at h2;refine RX.hid (λ k => ?_) h2;simp only[b9];cases za k s<;>rfl
theorem RX.Lp (h:RX σ tm M st) {s key k2 ky s' s2 z:Nat} {rows:List (P')} {es:o_} (e:b9 M key=some (s',.mx rows)) (e2:b9 M k2=some (s2,.rw z es)) (hk:key≠k2) (hm:HU s M=false) (ht:JF s tm=false) :
  RX (DD σ s λ t=>match t with|0=>(s',st.own.g7 s')|i+1=>if i=rows.length then σ k2 0 else σ key (i+1)) tm ((s,s',.mx (rows++[some (z,es)]))::o6 key (o6 k2 (o6 ky M)))
   ⟨st.tm,st.own.put s' (((st.own s').q6 (σ key 0).2 none).new ⟨1,CB σ key 0 rows++[[.row (σ k2 0).1 (σ k2 0).2 z 0 es.length]]⟩)⟩:=by
 have hs:=h.sat.site _ _ _ e;subst hs;have r0:=EW e;have r2:=EW e2;generalize hF:(λ t=>match t with|0=>((σ key 0).1,st.own.g7 (σ key 0).1)|i+1=>if i=rows.length then σ k2 0 else σ key (i+1):Nat->Nat × Nat)=F;have F0:F 0=((σ key 0).1,st.own.g7 (σ key 0).1):=by rw[<-hF]
 have F1 : ∀ i,F (i+1)=if i=rows.length then σ k2 0 else σ key (i+1):=by intro i;rw[<-hF]
 have iy:CB (DD σ s F) s 0 (rows++[some (z,es)])=CB σ key 0 rows++[[.row (σ k2 0).1 (σ k2 0).2 z 0 es.length]]:=by
  apply Ka;intro j;rw[F4,B4];rcases eb j rows.length with hj|hj|hj
  ·rw[Ja hj,Ja (by rw[F5];exact hj),F4]
   congr 1;funext r
   cases r with
   | none=>rfl
   | some x=>simp only[Oa];rw[F1,if_neg O']
  ·subst hj
   rw[La (Na _),La (by rw[F5];exact Na _),F5];simp [F1]
  ·rw[Ra G',Ra (by simp [F5];omega)];rfl
 have Ef : ∀ j t c',a9 M j t=some c'->JE s c'=false/\j≠s:=by
  intro j t c' g;obtain ⟨s1,c0,g1,g2,g3⟩:=IB g;obtain ⟨g4,g5⟩:=XA hm _ _ _ g1;refine ⟨?_,g4⟩;cases t with
  | zero=>rw[g2 rfl];exact g5
  | succ i=>obtain ⟨rows,z,es,_,_,rfl⟩:=g3 i rfl;rfl
 have hg : ∀ j t c,a9 ((s,(σ key 0).1,.mx (rows++[some (z,es)]))::o6 key (o6 k2 (o6 ky M))) j t=some c ->
   (j=s/\t=0/\c = .mx (rows++[some (z,es)]))\/(j=s/\t=rows.length+1/\c = .rw z es)\/(j=s/\t≠0/\t≠rows.length+1/\a9 M key t=some c)\/(j≠s/\j≠key/\j≠k2/\a9 M j t=some c):=by
  intro j t c g;by_cases hj:j=s
  ·subst hj
   cases t with
   | zero=>rw[TG]at g;exact Or.inl ⟨rfl,rfl,(sa g).symm⟩
   | succ t =>
    simp only[a9,b9,yb,cond_true]at g;rcases eb t rows.length with nm|nm|nm
    ·rw[Ja nm]at g
     refine Or.inr (Or.inr (Or.inl ⟨rfl,O',O',?_⟩));simp only[a9,e];exact g
    ·subst nm
     rw[La (Na _),Ic]at g;exact Or.inr (Or.inl ⟨rfl,rfl,(sa g).symm⟩)
    ·rw[Ra G']at g;cases g
  ·rw[L7 hj]at g
   obtain ⟨g1,g2⟩:=NH g;obtain ⟨g3,g4⟩:=NH g2;obtain ⟨_,g5⟩:=NH g4;exact Or.inr (Or.inr (Or.inr ⟨hj,g1,g3,g5⟩))
 refine ⟨λ j => ?_,⟨?_,?_,?_,?_,?_⟩⟩
 ·rw[jD (Y5 ht j)];exact h.tm j
 ·intro j s1 c g
  simp only[b9]at g;cases hb:za j s<;>simp only[hb,cond_true,cond_false]at g
  ·rw[CU _ (GJ.1 hb)];exact h.sat.site _ _ _ (OT (OT (OT g).2).2).2
  ·simp only[xa,Qa]at g
   rw[B1.1 hb,B4,F0,<-g.1]
 ·intro j t c g
  rcases hg j t c g with ⟨rfl,rfl,rfl⟩|⟨rfl,rfl,rfl⟩|⟨rfl,h0,h1,g2⟩|⟨h0,h1,h2,g2⟩
  ·rw[B4,F0]
   simp only[BF.c9,iy];simp [AJ.j7,CO.new,AJ.g7,CO.q6]
  ·rw[B4,F1,if_pos rfl]
   exact (WR (λ he=>hk (h.sat.inj _ _ _ _ _ _ r2 r0 he).1.symm) (h.sat.old _ _ _ r2)).trans (h.sat.c9 _ _ _ r2)
  ·obtain ⟨t',rfl⟩ : ∃ t',t=t'+1:=⟨t-1,O'⟩
   rw[B4,F1,if_neg O'];have hb:c.c9 (DD σ j F) j=c.c9 σ key:=by
    obtain ⟨_,_,_,_,g3⟩:=IB g2;obtain ⟨_,_,_,_,_,rfl⟩:=g3 t' rfl;rfl
   rw[hb];exact (WR (λ he=>absurd (h.sat.inj _ _ _ _ _ _ g2 r0 he).2 O') (h.sat.old _ _ _ g2)).trans (h.sat.c9 _ _ _ g2)
  ·rw[CU _ h0,dJ (Ef _ _ _ g2).1 h0]
   exact (WR (λ he=>h1 (h.sat.inj _ _ _ _ _ _ g2 r0 he).1) (h.sat.old _ _ _ g2)).trans (h.sat.c9 _ _ _ g2)
 ·intro j t c g
  rcases hg j t c g with ⟨rfl,rfl,rfl⟩|⟨rfl,rfl,rfl⟩|⟨rfl,h0,h1,g2⟩|⟨h0,h1,h2,g2⟩
  ·rw[B4,F0]
   simp [AJ.j7,CO.new,AJ.g7,CO.q6]
  ·rw[B4,F1,if_pos rfl]
   exact Ha (h.sat.old _ _ _ r2) (WS _)
  ·obtain ⟨t',rfl⟩ : ∃ t',t=t'+1:=⟨t-1,O'⟩
   rw[B4,F1,if_neg O'];exact Ha (h.sat.old _ _ _ g2) (WS _)
  ·rw[CU _ h0]
   exact Ha (h.sat.old _ _ _ g2) (WS _)
 ·have hold : ∀ j t c,a9 ((s,(σ key 0).1,.mx (rows++[some (z,es)]))::o6 key (o6 k2 (o6 ky M))) j t=some c->(j=s/\t=0) \/ ∃ j0 t0 c0,a9 M j0 t0=some c0/\DD σ s F j t=σ j0 t0/\((j0=k2/\t0=0/\j=s/\t=rows.length+1)\/(j0=key/\t0=t/\j=s)\/(j0=j/\t0=t/\j≠key/\j≠k2)):=by
   intro j t c g;rcases hg j t c g with ⟨rfl,rfl,rfl⟩|⟨rfl,rfl,rfl⟩|⟨rfl,h0,h1,g2⟩|⟨h0,h1,h2,g2⟩
   ·exact Or.inl ⟨rfl,rfl⟩
   ·exact Or.inr ⟨_,_,_,r2,by rw[B4,F1,if_pos rfl],Or.inl ⟨rfl,rfl,rfl,rfl⟩⟩
   ·obtain ⟨t',rfl⟩ : ∃ t',t=t'+1:=⟨t-1,O'⟩
    exact Or.inr ⟨_,_,_,g2,by rw[B4,F1,if_neg O'],Or.inr (Or.inl ⟨rfl,rfl,rfl⟩)⟩
   ·exact Or.inr ⟨_,_,_,g2,by rw[CU _ h0],Or.inr (Or.inr ⟨rfl,rfl,h1,h2⟩)⟩
  have pc : ∀ j0 t0 c0,a9 M j0 t0=some c0->DD σ s F s 0≠σ j0 t0:=by
   intro j0 t0 c0 g he;rw[B4,F0]at he;have:=h.sat.old _ _ _ g
   rw[<-he]at this;exact absurd this (Ib _)
  intro j t j' t' c c' g g' hj;rcases hold j t c g with ⟨rfl,rfl⟩|⟨j0,t0,c0,a1,a2,a3⟩<;>rcases hold j' t' c' g' with ⟨rfl,rfl⟩|⟨j1,t1,c1,b1,b2,b3⟩
  ·exact ⟨rfl,rfl⟩
  ·rw[b2]at hj;exact absurd hj (pc _ _ _ b1)
  ·rw[a2]at hj;exact absurd hj.symm (pc _ _ _ a1)
  ·rw[a2,b2]at hj
   obtain ⟨q1,q2⟩:=h.sat.inj _ _ _ _ _ _ a1 b1 hj;rcases a3 with ⟨x1,x2,x3,x4⟩|⟨x1,x2,x3⟩|⟨x1,x2,x3,x4⟩<;>rcases b3 with ⟨y1,y2,y3,y4⟩|⟨y1,y2,y3⟩|⟨y1,y2,y3,y4⟩
   ·exact ⟨x3.trans y3.symm,x4.trans y4.symm⟩
   ·exact absurd (y1.symm.trans (q1.symm.trans x1)) hk
   ·exact absurd (y1.symm.trans (q1.symm.trans x1)) y4
   ·exact absurd (x1.symm.trans (q1.trans y1)) hk
   ·exact ⟨x3.trans y3.symm,x2.symm.trans (q2.trans y2)⟩
   ·exact absurd (y1.symm.trans (q1.symm.trans x1)) y3
   ·exact absurd (x1.symm.trans (q1.trans y1)) x4
   ·exact absurd (x1.symm.trans (q1.trans y1)) x3
   ·exact ⟨x1.symm.trans (q1.trans y1),x2.symm.trans (q2.trans y2)⟩
 ·intro j t c g hw
  rcases hg j t c g with ⟨rfl,rfl,rfl⟩|⟨rfl,rfl,rfl⟩|⟨rfl,h0,h1,g2⟩|⟨h0,h1,h2,g2⟩
  ·rw[B4,F0];exact h.sat.low _ _ _ r0 rfl
  ·rw[B4,F1,if_pos rfl];exact h.sat.low _ _ _ r2 rfl
  ·obtain ⟨t',rfl⟩ : ∃ t',t=t'+1:=⟨t-1,O'⟩
   rw[B4,F1,if_neg O'];exact h.sat.low _ _ _ g2 hw
  ·rw[CU _ h0];exact h.sat.low _ _ _ g2 hw
theorem IE (k:IntKind) (n:Int):BM σ (.int k n) = .int k n:=rfl
theorem ID (b:Bool):BM σ (.bool b) = .bool b:=rfl
theorem JG (l:Bool) (es:o_):BM σ (.sl l es) = .sl l es:=rfl
theorem EA (k t z o n:Nat):BM σ (.row k t z o n) = .row (σ k t).1 (σ k t).2 z o n:=rfl
theorem E2 (k t i j:Nat):BM σ (.ptr k t i j) = .ptr (σ k t).1 (σ k t).2 i j:=rfl
theorem J3 (cs:u_):BM σ (.s9 cs) = .s9 cs:=rfl
theorem GO:BM σ .nil = .nil:=rfl
theorem IU (cs:u_):BM σ (.agg cs) = .agg (cs.map (BH σ)):=rfl
theorem Amq (v:Value):BM σ (.cp v) = .cp v:=rfl
theorem bR (p:Bool) (f g:Nat) (cs:u_):BM σ (.fn p f g cs) = .fn p f g (cs.map (BH σ)):=rfl
theorem J4 (cs:u_):BM σ (.c5 cs) = .c5 (cs.map (BT σ)):=rfl
def CI.res (own:AJ):CI->AV × AJ
 | .val v=>(v,own)
 | .new s b f=>(f (own.g7 s),own.put s ((own s).new b))
 | .Bf s b f=>(f (own.g7 s),own.put s ((own s).new b))
 | .dw v o=>(v,o)
 | .Cu s v o=>(v,o.put s (own s))
 | .q6 s x=>(.c5 [],own.put s x)
 | .zw s x v=>(v,own.put s x)
theorem kI (st:St) (d:Option Nat) (E:CI):st.app d E=⟨(st.dst d (E.res st.own).1).tm,(E.res st.own).2⟩:=by
 cases E<;>cases d<;>rfl
def BZ (L:Lib) (tm:Tm) (b7:N') (K:AV->Mem->Prop) (op:EI) (st:St):Prop :=
 ∃ E σ' v M',(∀ c,c8 (C3 L c) b7 st.ev st.own op=some E)/\K v M'/\(E.res st.own).1=BM σ' v/\RX σ' tm M' ⟨st.tm,(E.res st.own).2⟩
theorem BZ.val {L:Lib} {b7:N'} {K:AV->Mem->Prop} {op:EI} (h:RX σ tm M st) (v:AV) (he : ∀ c,c8 (C3 L c) b7 st.ev st.own op=some (.val (BM σ v))) (hk:K v M):BZ L tm b7 K op st :=
 ⟨_,σ,v,M,he,hk,rfl,h⟩
variable {L:Lib} {b7:N'} {K:AV->Mem->Prop}
theorem AeQ {x:AU} (hr:RX σ tm M st) (h:XE L tm M b7 K (.m5 x)):BZ L tm b7 K (.m5 x) st:=by
 simp only[XE]at h;obtain ⟨h1,h2⟩:=fJ h;exact BZ.val hr _ (λ C=>by simp only[c8,hr.ev rfl h1]) h2
theorem AeW {s z:Nat} (hr:RX σ tm M st) (h:XE L tm M b7 K (.v5 s z)):BZ L tm b7 K (.v5 s z) st:=by
 simp only[XE]at h;cases ix:FP s<;>simp only[ix,cond_true,cond_false]at h;obtain ⟨k,h1,h2,h3⟩:=JI h;refine ⟨_,_,_,_,λ C=>rfl,h3,?_,hr.jb h1 h2 (.rw z []) trivial rfl (λ_=>ix)⟩;simp only[CI.res,EA,E2,B4]
theorem AeR {c a b:AU} (hr:RX σ tm M st) (h:XE L tm M b7 K (.pick c a b)):BZ L tm b7 K (.pick c a b) st:=by
 simp only[XE]at h;split at h
 ·rename_i e
  obtain ⟨h1,h2⟩:=fJ h;exact BZ.val hr _ (λ C=>by simp only[c8,hr.ev e D',hr.ev rfl h1,IE,ID,JG,EA,E2,J3,GO,IU,J4]) h2
 ·rename_i e
  obtain ⟨h1,h2⟩:=fJ h;exact BZ.val hr _ (λ C=>by simp only[c8,hr.ev e D',hr.ev rfl h1,IE,ID,JG,EA,E2,J3,GO,IU,J4]) h2
 ·exact h.elim
theorem AjU {op:BinOp} {k k':IntKind} {a b:Int} {v:AV} (h:DP op k a k' b=some v):BM σ v=v:=by
 cases op<;>simp only[DP]at h<;>split at h<;>first|(obtain rfl:=sa h;rfl)|cases h
theorem Aku {k k':IntKind} (h:kq k k'=true):k=k':=by simpa [kq] using h
theorem Afg {op:BinOp} {k k':IntKind} {a b:Int} {K:AV->Prop} (h:kL op k a k' b K) : ∃ v,DP op k a k' b=some v/\K v:=by
 have key : ∀ (p q:Prop) [Decidable p] (A B:Prop) (c:Bool),(¬ p->q)->AF p q A B->(p/\A)\/(¬ p/\B):=by
  intro p q _ A B _ hq hc;by_cases hp:p
  ·exact Or.inl ⟨hp,hc.1 hp⟩
  ·exact Or.inr ⟨hp,hc.2 (hq hp)⟩
 cases op;all_goals try (exact h)
 all_goals (
  simp only[kL]at h;cases hk:kq k k'<;>simp only[hk,cond_true,cond_false]at h;obtain rfl:=Aku hk;simp only[DP,if_true])
 ·rcases key (a=b) _ _ _ true (λ e=>e) h with ⟨h1,h2⟩|⟨h1,h2⟩
  ·exact ⟨_,rfl,by rw[show (a == b)=true by simpa using h1];exact h2⟩
  ·exact ⟨_,rfl,by rw[show (a == b)=false by simpa using h1];exact h2⟩
 ·rcases key (a≠b) _ _ _ true (λ e=>O') h with ⟨h1,h2⟩|⟨h1,h2⟩
  ·exact ⟨_,rfl,by rw[show (a != b)=true by simpa using h1];exact h2⟩
  ·exact ⟨_,rfl,by rw[show (a != b)=false by simpa using h1];exact h2⟩
 ·rcases key (a<b) _ _ _ true (λ e=>O') h with ⟨h1,h2⟩|⟨h1,h2⟩
  ·exact ⟨_,rfl,by simpa [h1] using h2⟩
  ·exact ⟨_,rfl,by simpa [h1] using h2⟩
 ·rcases key (a<=b) _ _ _ true (λ e=>O') h with ⟨h1,h2⟩|⟨h1,h2⟩
  ·exact ⟨_,rfl,by simpa [h1] using h2⟩
  ·exact ⟨_,rfl,by simpa [h1] using h2⟩
 ·rcases key (b<a) _ _ _ true (λ e=>O') h with ⟨h1,h2⟩|⟨h1,h2⟩
  ·exact ⟨_,rfl,by simpa [h1] using h2⟩
  ·exact ⟨_,rfl,by simpa [h1] using h2⟩
 ·rcases key (b<=a) _ _ _ true (λ e=>O') h with ⟨h1,h2⟩|⟨h1,h2⟩
  ·exact ⟨_,rfl,by simpa [h1] using h2⟩
  ·exact ⟨_,rfl,by simpa [h1] using h2⟩
theorem Aex {op:BinOp} {x y:AU} (hr:RX σ tm M st) (h:XE L tm M b7 K (.bin op x y)):BZ L tm b7 K (.bin op x y) st:=by
 simp only[XE]at h;split at h
 ·rename_i k a k' b e1 e2
  obtain ⟨v,hv,hk⟩:=Afg h;exact BZ.val hr v (λ C=>by
   simp only[c8,hr.ev e1 D',hr.ev e2 D',IE,ID,JG,EA,E2,J3,GO,IU,J4,hv,va];exact congrArg some (congrArg CI.val (AjU (σ:=σ) hv).symm)) hk
 ·exact h.elim
theorem Aew {ne:Bool} {x y:AU} (hr:RX σ tm M st) (h:XE L tm M b7 K (.beq ne x y)):BZ L tm b7 K (.beq ne x y) st:=by
 simp only[XE]at h;split at h
 ·rename_i a b e1 e2
  rw[QS]at h;exact BZ.val hr _ (λ C=>by
   simp only[c8,hr.ev e1 D',hr.ev e2 D',IE,ID,JG,EA,E2,J3,GO,IU,J4];cases ne<;>rfl) h
 ·exact h.elim
theorem oF : ∀ {cs:u_} {a:List Int},I4 cs=some a->cs.map (BH σ)=cs
 | [],_,_=>rfl
 | c::r,a,h=>by
  cases c with
  | int k n =>
   cases k<;>simp only[I4]at h<;>first|cases h|skip
   cases hr:I4 r with
   | none=>rw[hr]at h;cases h
   | some b=>rw[ya,oF hr];rfl
  | _=>simp only[I4]at h;cases h
theorem Aer {ne:Bool} {n:Nat} {x y:AU} (hr:RX σ tm M st) (h:XE L tm M b7 K (.tk ne n x y)):BZ L tm b7 K (.tk ne n x y) st:=by
 simp only[XE]at h;split at h
 ·rename_i cs ds e1 e2
  obtain ⟨a,b,h1,h2,h3,h4,h⟩:=h;rw[QS]at h;exact BZ.val hr _ (λ C=>by
   simp only[c8,hr.ev e1 D',hr.ev e2 D',IU,oF h1,oF h2,h1,h2];rw[if_pos ⟨h3,h4⟩];cases ne<;>rfl) h
 ·exact h.elim
theorem AeV {op:UnOp} {x:AU} (hr:RX σ tm M st) (h:XE L tm M b7 K (.un op x)):BZ L tm b7 K (.un op x) st:=by
 simp only[XE]at h;split at h
 ·rename_i k n e1
  obtain ⟨v,hv,hk⟩:=h;refine BZ.val hr v (λ C => ?_) hk;simp only[c8,hr.ev e1 D',IE,ID,JG,EA,E2,J3,GO,IU,J4,hv,va];cases op<;>simp only[VM,xa,reduceCtorEq]at hv<;>subst hv<;>rfl
 ·rename_i b e1
  split at h
  ·rw[QS]at h
   exact BZ.val hr _ (λ C=>by simp only[c8,hr.ev e1 D',IE,ID,JG,EA,E2,J3,GO,IU,J4,VM,va]) h
  ·exact h.elim
 ·exact h.elim
theorem AeC {k:IntKind} {x:AU} (hr:RX σ tm M st) (h:XE L tm M b7 K (.conv k x)):BZ L tm b7 K (.conv k x) st:=by
 simp only[XE]at h;split at h
 ·rename_i k' n e1
  exact BZ.val hr _ (λ C=>by simp only[c8,hr.ev e1 D',IE,ID,JG,EA,E2,J3,GO,IU,J4]) h.h
 ·exact h.elim
theorem Aey {s:Nat} {x:AU} (hr:RX σ tm M st) (h:XE L tm M b7 K (.box s x)):BZ L tm b7 K (.box s x) st:=by
 simp only[XE]at h;obtain ⟨h0,cs,hc,h⟩:=fI h;obtain ⟨k,h1,h2,h3⟩:=JI h;refine ⟨.new s (BF.c9 σ k (.bx cs)) (λ t => .ptr s t 0 0),_,_,_,λ C => ?_,h3,?_,hr.jb h1 h2 (.bx cs) trivial (Vr (yT h2 x) hc) (λ h=>nomatch h)⟩
 ·simp only[c8,hr.ev rfl h0,OA hc,ga,BF.c9]
 ·simp only[CI.res,EA,E2,B4]
theorem Aes {s:Nat} {z:u_} (hr:RX σ tm M st) (h:XE L tm M b7 K (.alloc s z)):BZ L tm b7 K (.alloc s z) st:=by
 simp only[XE]at h;cases hd:EJ z<;>simp only[hd,cond_true,cond_false]at h;obtain ⟨k,h1,h2,h3⟩:=JI h;refine ⟨.new s (BF.c9 σ k (.bx z)) (λ t => .ptr s t 0 0),_,_,_,λ C => ?_,h3,?_,hr.jb h1 h2 (.bx z) trivial (lO hd) (λ h=>nomatch h)⟩
 ·simp only[c8,BF.c9,JQ hd]
 ·simp only[CI.res,EA,E2,B4]
theorem hH {cs ds:u_} {off n:Nat} (h:part cs off n=some ds):part (cs.map (BH σ)) off n=some (ds.map (BH σ)):=by
 simp only[part]at h ⊢;split at h
 ·rename_i hl
  rw[if_pos (by simpa using hl)];obtain rfl:=sa h;rw[Rb,Pb]
 ·cases h
theorem yV {v:AV} {K:AV->Prop} (h:fF v K):v ≠ .any/\BM σ v=BH σ v/\K v:=by
 cases v<;>simp only[fF]at h<;>first|exact h.elim|exact ⟨D',rfl,h⟩
theorem Q7 (σ:GA) {agg:Bool} {ds:u_} {K:AV->Prop} (h:rm agg ds K) : ∃ v,LB agg (ds.map (BH σ))=some (BM σ v)/\K v:=by
 cases agg
 ·simp only[rm]at h
  split at h
  ·rename_i c
   obtain ⟨_,h1,h2⟩:=yV (σ:=σ) h;exact ⟨c,by rw[h1];rfl,h2⟩
  ·exact h.elim
 ·exact ⟨.agg ds,rfl,h⟩
theorem Zj {cs vs:u_} {j:Nat}:(splice cs j vs).map (BH σ)=splice (cs.map (BH σ)) j (vs.map (BH σ)):=by
 simp only[splice,Cb,Rb,Pb,ga]
theorem zG (hr:RX σ tm M st) : ∀ {ps:List (Nat × Nat × AU)} {cells:u_} {K:u_->Prop},nH tm ps cells K -> ∃ cs,fill (cells.map (BH σ)) (ps.map λ p=>(p.1,p.2.1,st.ev p.2.2))=some (cs.map (BH σ))/\K cs
 | [],cells,K,h=>⟨cells,rfl,h⟩
 | p::r,cells,K,h=>by
  obtain ⟨h0,vs,hc,h⟩:=fI (show fC (ex tm p.2.2) λ vs=>bif za vs.length p.2.1 then bif qb (p.1+p.2.1) cells.length then fL (splice cells p.1 vs) λ cells=>nH tm r cells K else False else False from h);cases hz:za vs.length p.2.1<;>simp only[hz,cond_true,cond_false]at h;have hl:qb (p.1+p.2.1) cells.length=true:=by
   cases hl:qb (p.1+p.2.1) cells.length
   ·rw[hl]at h;exact h.elim
   ·rfl
  rw[hl]at h;simp only[cond_true,H8]at h;obtain ⟨cs,h1,h2⟩:=zG hr h;refine ⟨cs,?_,h2⟩;simp only[ya,fill,hr.ev rfl h0,OA hc,ga];rw[if_pos ⟨B1.1 hz,Ba hl⟩,<-Zj];exact h1
theorem AeA {z:u_} {ps:List (Nat × Nat × AU)} (hr:RX σ tm M st) (h:XE L tm M b7 K (.build z ps)):BZ L tm b7 K (.build z ps) st:=by
 simp only[XE]at h;cases hd:EJ z<;>simp only[hd,cond_true,cond_false]at h;obtain ⟨cs,h1,h2⟩:=zG hr h;refine BZ.val hr (.agg cs) (λ C => ?_) h2;rw[JQ hd]at h1;simp only[c8,h1];rfl
theorem yQ : ∀ l:List AU,SM tm l=l.map (ex tm)
 | []=>rfl
 | x::r=>by rw[SM,yQ r];rfl
theorem vC : ∀ {es:o_},aA es=true -> ∀ e∈es,EJ e=true
 | e0::r,h,e,he=>by
  simp only[aA]at h;cases h1:EJ e0<;>simp only[h1,cond_true,cond_false]at h
  ·cases h
  ·rcases ub.1 he with rfl|he
   ·exact h1
   ·exact vC h e he
theorem Af0 {es:o_} (h : ∀ e∈es,EJ e=true):(es.map λ cs=>cs.map (BH σ))=es:=by
 conv=>rhs;rw[<-Ec es]
 exact Pa λ e he=>JQ (h e he)
theorem AkE {es:o_} {K:Nat->Prop} (h:oQ es K):K es.length:=by
 unfold oQ at h;split at h<;>exact h
theorem tU (hr:RX σ tm M st) {z:Nat} : ∀ {l:List AU} {K:o_->Prop},kP tm z l K -> ∃ es,l.mapM (λ x=>cellsOf (st.ev x))=some (es.map λ cs=>cs.map (BH σ))/\(∀ e∈es,e.length=z)/\(∀ k,JF k tm=false->U9 k es=false)/\K es
 | [],K,h=>⟨[],rfl,(λ e he=>by cases he),λ_ _=>rfl,h⟩
 | x::r,K,h=>by
  obtain ⟨h0,cs,hc,h⟩:=fI (show fC (ex tm x) λ cs=>bif za cs.length z then kP tm z r λ es=>K (cs::es) else False from h);cases hz:za cs.length z<;>simp only[hz,cond_true,cond_false]at h;obtain ⟨es,h1,h2,h4,h3⟩:=tU hr h;refine ⟨cs::es,?_,λ e he => ?_,λ k hk => ?_,h3⟩
  ·rw[oa,h1,hr.ev rfl h0,OA hc];rfl
  ·rcases ub.1 he with rfl|he
   ·exact B1.1 hz
   ·exact h2 e he
  ·simp only[U9,Vr (yT hk x) hc,cond_false,h4 k hk]
theorem evL (hr:RX σ tm M st) {xs:List AU} (h : ∀ v∈SM tm xs,v ≠ .any):xs.map st.ev=(SM tm xs).map (BM σ):=by
 rw[yQ]at h ⊢;rw[zb];exact Pa λ x hx=>hr.ev rfl (h _ (List.mem_map_of_mem hx))
theorem Aez {s z:Nat} {ps:List AU} (hr:RX σ tm M st) (h:XE L tm M b7 K (.a7 s z ps)):BZ L tm b7 K (.a7 s z ps) st:=by
 simp only[XE]at h;cases ix:FP s<;>simp only[ix,cond_true,cond_false]at h;obtain ⟨es,g1,g2,g3,h⟩:=tU hr h;obtain ⟨k,h1,h2,h3⟩:=JI (AkE h);have key : ∀ c:BF,c.flat->JE k c=false->c.c9 σ k=⟨z,es.map λ cs=>cs.map (BH σ)⟩->K (.row k 0 z 0 es.length) ((k,s,c)::M)->BZ L tm b7 K (.a7 s z ps) st:=by
  intro c hf hc hb hk;refine ⟨.new s (c.c9 σ k) (λ t => .row s t z 0 es.length),_,_,_,λ C => ?_,hk,?_,hr.jb h1 h2 c hf hc (λ_=>ix)⟩
  ·simp only[c8,g1,hb]
   rw[if_pos (λ e he=>by obtain ⟨e',iq,rfl⟩:=Nb.1 he;simpa using g2 e' iq)];simp only[ga]
  ·simp only[CI.res,EA,B4]
 cases hd:aA es<;>simp only[hd,cond_true,cond_false]at h3
 ·exact key (.bs z es) trivial (g3 k h2) rfl h3
 ·exact key (.rw z es) trivial rfl (by simp only[BF.c9];rw[Af0 (vC hd)]) h3
theorem AeE {x:AU} {off:Nat} (hr:RX σ tm M st) (h:XE L tm M b7 K (.j4 x off)):BZ L tm b7 K (.j4 x off) st:=by
 simp only[XE]at h;split at h
 ·rename_i key t i j e
  exact BZ.val hr _ (λ C=>by simp only[c8,hr.ev e D',IE,ID,JG,EA,E2,J3,GO,IU,J4]) h
 ·rename_i cs e
  rw[H8]at h;exact BZ.val hr _ (λ C=>by simp only[c8,hr.ev e D',IE,ID,JG,EA,E2,J3,GO,IU,J4]) h
 ·exact h.elim
theorem AeF {x:AU} {off n:Nat} {agg:Bool} (hr:RX σ tm M st) (h:XE L tm M b7 K (.pn x off n agg)):BZ L tm b7 K (.pn x off n agg) st:=by
 simp only[XE]at h;split at h
 ·rename_i cs e
  split at h
  ·rename_i ds hp
   rw[H8]at h;obtain ⟨v,h1,h2⟩:=Q7 σ h;exact BZ.val hr v (λ C=>by simp only[c8,hr.ev e D',IU,hH hp,h1,va]) h2
  ·exact h.elim
 ·exact h.elim
theorem AeH {arr:Option Nat} {z:Nat} {x i:AU} (hr:RX σ tm M st) (h:XE L tm M b7 K (.u6 arr z x i)):BZ L tm b7 K (.u6 arr z x i) st:=by
 simp only[XE]at h;split at h
 ·rename_i kd n e1
  split at h
  ·rename_i len key t i' j e2
   obtain ⟨h1,h2⟩:=h;exact BZ.val hr _ (λ C=>by simp only[c8,hr.ev e1 D',hr.ev e2 D',IE,ID,JG,EA,E2,J3,GO,IU,J4];rw[if_pos h1]) h2
  ·rename_i len cs e2
   obtain ⟨h1,h2⟩:=h;rw[H8]at h2;exact BZ.val hr _ (λ C=>by simp only[c8,hr.ev e1 D',hr.ev e2 D',IE,ID,JG,EA,E2,J3,GO,IU,J4];rw[if_pos h1]) h2
  ·rename_i key t z' off len e2
   cases hz:za z' z<;>simp only[hz,cond_true,cond_false]at h;obtain ⟨h1,h2⟩:=h;exact BZ.val hr _ (λ C=>by simp only[c8,hr.ev e1 D',hr.ev e2 D',IE,ID,JG,EA,E2,J3,GO,IU,J4];rw[if_pos ⟨h1.1,h1.2,B1.1 hz⟩]) h2
  ·rename_i q es e2
   obtain ⟨h1,cs,h2,h3,h4⟩:=h;exact BZ.val hr _ (λ C=>by simp only[c8,hr.ev e1 D',hr.ev e2 D',IE,ID,JG,EA,E2,J3,GO,IU,J4,h2];rw[if_pos h1,if_pos h3]) h4
  ·exact h.elim
 ·exact h.elim
theorem YZ {s:Nat} {own:AJ} : ∀ {b7:N'},TQ s b7=true->own.m7 b7 s=own s
 | [],_=>rfl
 | b::r,h=>by
  have hm:Q3 s (b::r)=false:=by simpa [TQ] using h
  have : ∀ l:N',Q3 s l=false->own.m7 l s=own s:=by
   intro l;induction l with
   | nil=>intro _;rfl
   | cons b r ih =>
    intro h;simp only[Q3]at h;cases hb:za s b<;>simp only[hb,cond_true,cond_false]at h
    ·simp only[AJ.m7]
     rw[if_neg (GJ.1 hb)];exact ih h
    ·cases h
  exact this _ hm
theorem pJ {s:Nat} {own:AJ} (hs:FP s=true) : ∀ {b7:N'},W2 b7=true->own.m7 b7 s=own s
 | [],_=>rfl
 | b::r,h=>by
  simp only[W2]at h;cases hb:FP b<;>simp only[hb,cond_true,cond_false]at h
  ·have k7:s≠b:=λ e=>by rw[e,hb]at hs;cases hs
   show (if s=b then _ else own.m7 r s)=own s;rw[if_neg k7];exact pJ hs h
  ·cases h
theorem AeJ {agg:Bool} {n:Nat} {x:AU} (hr:RX σ tm M st) (h:XE L tm M b7 K (.ld agg n x)):BZ L tm b7 K (.ld agg n x) st:=by
 simp only[XE]at h;split at h
 ·rename_i key t i j e
  split at h
  ·rename_i s c hm
   have hs:=hr.sat.site _ _ _ hm;split at h
   ·cases hb:TQ s b7<;>simp only[hb,cond_true,cond_false]at h
    have ah:=hr.sat.c9 _ _ _ (EW hm);rw[hs]at ah;split at h
    ·rename_i cs
     cases hi:za i 0<;>simp only[hi,cond_true,cond_false]at h;obtain rfl:=B1.1 hi;split at h
     ·rename_i ds hp
      rw[H8]at h;obtain ⟨v,h1,h2⟩:=Q7 σ h;exact BZ.val hr v (λ C=>by
       simp only[c8,hr.ev e D',E2,AJ.rh,AJ.get,hs];rw[YZ hb,ah];simp only[BF.c9,Ob,hH hp,h1,va]) h2
     ·exact h.elim
    ·rename_i z es
     obtain ⟨cs,ds,g1,g2,h⟩:=h;rw[H8]at h;cases hd:EJ ds<;>simp only[hd,cond_true,cond_false]at h;obtain ⟨v,h1,h2⟩:=Q7 σ h;rw[JQ hd]at h1;exact BZ.val hr v (λ C=>by
      simp only[c8,hr.ev e D',E2,AJ.rh,AJ.get,hs];rw[YZ hb,ah];simp only[BF.c9,g1,g2,h1,va]) h2
    ·rename_i z es
     split at h
     ·rename_i cs g1
      split at h
      ·rename_i ds hp
       rw[H8]at h;obtain ⟨v,h1,h2⟩:=Q7 σ h;exact BZ.val hr v (λ C=>by
        simp only[c8,hr.ev e D',E2,AJ.rh,AJ.get,hs];rw[YZ hb,ah];simp only[BF.c9,Ma,g1,va,hH hp,h1]) h2
      ·exact h.elim
     ·exact h.elim
    ·rename_i rows
     cases hj:za j 0<;>simp only[hj,cond_true,cond_false]at h;cases hn:za n 1<;>simp only[hn,cond_true,cond_false]at h;obtain rfl:=B1.1 hj;obtain rfl:=B1.1 hn;obtain ⟨r,g1,h⟩:=h;have fin : ∀ c:AV,(CB σ key 0 rows)[i]? = some [BH σ c]->rm agg [c] (λ v=>K v M)->BZ L tm b7 K (.ld agg 1 x) st:=by
      intro c hc h;obtain ⟨v,h1,h2⟩:=Q7 σ h;have hp:part [BH σ c] 0 1=some [BH σ c]:=by simp [part]
      exact BZ.val hr v (λ C=>by
       simp only[c8,hr.ev e D',E2,AJ.rh,AJ.get,hs];rw[YZ hb,ah];simp only[BF.c9,hc,hp];simp only[ya,Da]at h1;simp only[h1,va]) h2
     split at h
     ·rename_i z es
      exact fin _ (by rw[F4,g1];simp [BH]) h
     ·exact fin _ (by rw[F4,g1];simp [BH]) h
    ·exact h.elim
    ·exact h.elim
   ·rename_i i'
    split at h
    ·rename_i rows
     obtain ⟨z,es,g0,cs,ds,g1,g2,h⟩:=h;rw[H8]at h;cases hd:EJ ds<;>simp only[hd,cond_true,cond_false]at h;obtain ⟨v,h1,h2⟩:=Q7 σ h;rw[JQ hd]at h1;have ah:=hr.sat.c9 key (i'+1) (.rw z es) (by simp [a9,hm,g0]);exact BZ.val hr v (λ C=>by
      simp only[c8,hr.ev e D',E2,AJ.rh,AJ.get,AJ.m7];rw[ah];simp only[BF.c9,g1,g2,h1,va]) h2
    ·rename_i rows b r
     cases hb:W2 (b::r)<;>simp only[hb,cond_true,cond_false]at h;obtain ⟨z,es,g0,cs,ds,g1,g2,h⟩:=h;rw[H8]at h;cases hd:EJ ds<;>simp only[hd,cond_true,cond_false]at h;obtain ⟨v,h1,h2⟩:=Q7 σ h;rw[JQ hd]at h1;have g':a9 M key (i'+1)=some (.rw z es):=by simp [a9,hm,g0]
     have ah:=hr.sat.c9 key (i'+1) (.rw z es) g';have ix:=hr.sat.low key (i'+1) _ g' rfl;exact BZ.val hr v (λ C=>by
      simp only[c8,hr.ev e D',E2,AJ.rh,AJ.get];rw[pJ ix hb,ah];simp only[BF.c9,g1,g2,h1,va]) h2
    ·exact h.elim
  ·exact h.elim
 ·rename_i cs e
  split at h
  ·rename_i ds hp
   rw[H8]at h;cases hd:EJ ds<;>simp only[hd,cond_true,cond_false]at h;obtain ⟨v,h1,h2⟩:=Q7 σ h;rw[JQ hd]at h1;exact BZ.val hr v (λ C=>by simp only[c8,hr.ev e D',J3,hp,h1,va]) h2
  ·exact h.elim
 ·exact h.elim
theorem AeK {agg:Bool} {n:Nat} {x:AU} (hr:RX σ tm M st) (h:XE L tm M b7 K (.vm agg n x)):BZ L tm b7 K (.vm agg n x) st:=by
 simp only[XE]at h;split at h
 ·rename_i cs e
  split at h
  ·rename_i ds hp
   rw[H8]at h;cases hd:EJ ds<;>simp only[hd,cond_true,cond_false]at h;obtain ⟨v,h1,h2⟩:=Q7 σ h;rw[JQ hd]at h1;exact BZ.val hr v (λ C=>by simp only[c8,hr.ev e D',J3,hp,h1,va]) h2
  ·exact h.elim
 ·exact h.elim
theorem sS {n:Nat} {x v:AU} (hr:RX σ tm M st) (h:XE L tm M b7 K (.st n x v)):BZ L tm b7 K (.st n x v) st:=by
 simp only[XE,qX]at h;split at h
 ·rename_i key t i j e
  obtain ⟨h0,vs,hc,h5⟩:=fI h;clear h;cases hn:za vs.length n<;>simp only[hn,cond_true,cond_false]at h5;have py:=B1.1 hn;split at h5
  ·rename_i s c hm
   have hs:=hr.sat.site _ _ _ hm;split at h5
   ·have ah:=hr.sat.c9 _ _ _ (EW hm)
    rw[hs]at ah;split at h5
    ·rename_i cs
     cases hi:za i 0<;>simp only[hi,cond_true,cond_false]at h5;obtain rfl:=B1.1 hi;have hl:qb (j+vs.length) cs.length=true:=by
      cases hl:qb (j+vs.length) cs.length
      ·rw[hl]at h5;exact h5.elim
      ·rfl
     rw[hl]at h5;simp only[cond_true,H8]at h5;refine ⟨.dw (.c5 []) (st.own.put s ((st.own s).q6 (σ key 0).2 (some (BF.c9 σ key (.bx (splice cs j vs)))))),σ,_,_,λ C => ?_,h5,rfl,hr.Rx hm trivial _ trivial (λ h=>nomatch h)⟩;simp only[c8,hr.ev e D',E2,hr.ev rfl h0,OA hc,ga];rw[if_pos py];simp only[AJ.na,AJ.get,hs,ah,BF.c9,Ob,ga];rw[if_pos (Ba hl)];simp only[va,List.set_cons_zero,Zj];have:(splice cs j vs).length=cs.length:=by
      have:=Ba hl
      simp only[splice,List.length_append,List.length_take,List.length_drop];omega
     rw[this]
    ·rename_i z es
     cases hd:EJ vs<;>simp only[hd,cond_true,cond_false]at h5;obtain ⟨cs,g1,g2,h5⟩:=h5;refine ⟨.dw (.c5 []) (st.own.put s ((st.own s).q6 (σ key 0).2 (some (BF.c9 σ key (.rw z (es.set i (splice cs j vs))))))),σ,_,_,λ C => ?_,h5,rfl,hr.Rx hm trivial _ trivial (λ_=>rfl)⟩;simp only[c8,hr.ev e D',E2,hr.ev rfl h0,OA hc,JQ hd];rw[if_pos py];simp only[AJ.na,AJ.get,hs,ah,BF.c9,g1];rw[if_pos g2];rfl
    ·exact h5.elim
    ·rename_i rows
     split at h5
     ·rename_i y8 z m
      cases fo:za key y8<;>simp only[fo,cond_true,cond_false]at h5;cases bp:K4 key tm<;>simp only[bp,cond_true,cond_false]at h5;cases oe:JN key M<;>simp only[oe,cond_true,cond_false]at h5;cases hj:za j 0<;>simp only[hj,cond_true,cond_false]at h5;obtain rfl:=B1.1 hj;split at h5
      ·rename_i s2 z' es gj
       cases hz:za z z'<;>simp only[hz,cond_true,cond_false]at h5;obtain rfl:=B1.1 hz;rw[QT]at h5;obtain ⟨rfl,hi,h5⟩:=h5;have hlen:(CB σ key 0 rows)[i]? = some ((CB σ key 0 rows)[i]'(by rw[F5];exact hi)):=zE _;have iz:((CB σ key 0 rows)[i]'(by rw[F5];exact hi)).length=1:=by
        have:=F4 (σ:=σ) (k:=key) rows 0 i
        rw[hlen,zE hi]at this;simp only[va,xa]at this;rw[this];split<;>rfl
       refine ⟨.dw (.c5 []) (st.own.put s ((st.own s).q6 (σ key 0).2 (some ⟨1,(CB σ key 0 rows).set i [.row (σ y8 0).1 (σ y8 0).2 z 0 es.length]⟩))),_,_,_,λ C => ?_,h5,rfl,hr.Ep hm (Or.inl rfl) gj (GJ.1 fo) bp oe hi⟩;simp only[c8,hr.ev e D',E2,hr.ev rfl h0,OA hc,ga];rw[if_pos py];simp only[AJ.na,AJ.get,hs,ah,BF.c9,hlen,ya,Da,Ia,Ea,BH];rw[if_pos O'];simp only[va];have Aw:splice ((CB σ key 0 rows)[i]'(by rw[F5];exact hi)) 0 [.row (σ y8 0).1 (σ y8 0).2 z 0 es.length]=[.row (σ y8 0).1 (σ y8 0).2 z 0 es.length]:=by
        simp only[splice,yc,Db,Ia,Ea,Oa];rw[Mb O'];rfl
       rw[Aw]
      ·exact h5.elim
     ·rename_i y8 t2 z m
      cases fo:za key y8<;>simp only[fo,cond_true,cond_false]at h5;cases hj:za j 0<;>simp only[hj,cond_true,cond_false]at h5;obtain rfl:=B1.1 hj;obtain rfl:=B1.1 fo;obtain ⟨z',es,g0,h5⟩:=h5;cases hz:za z z'<;>simp only[hz,cond_true,cond_false]at h5;obtain rfl:=B1.1 hz;obtain ⟨⟨rfl,hi⟩,h5⟩:=h5;have u4:BF.c9 σ key (.vw ((nb rows.length).set i t2) rows)=⟨1,(CB σ key 0 rows).set i [.row (σ key (t2+1)).1 (σ key (t2+1)).2 z 0 es.length]⟩:=by
       simp only[BF.c9];congr 1;apply Ka;intro p;rw[Ma];by_cases hp:i=p
       ·subst hp
        rw[ja (by rw[Oc];exact hi),ja (by rw[F5];exact hi),va,F4,g0];simp
       ·rw[ea hp,ea hp,F4]
        by_cases Ed:p<rows.length
        ·rw[List.getElem?_range Ed,va,F4,zE Ed,va,Fb]
        ·rw[Ra (by rw[Oc];omega),Ra O'];rfl
      have hv:=hr.view (w:=(nb rows.length).set i t2) hm (Or.inl rfl);have hlen:(CB σ key 0 rows)[i]? = some ((CB σ key 0 rows)[i]'(by rw[F5];exact hi)):=zE _;have iz:((CB σ key 0 rows)[i]'(by rw[F5];exact hi)).length=1:=by
       have:=F4 (σ:=σ) (k:=key) rows 0 i
       rw[hlen,zE hi]at this;simp only[va,xa]at this;rw[this];split<;>rfl
      refine ⟨.dw (.c5 []) (st.own.put s ((st.own s).q6 (σ key 0).2 (some (BF.c9 σ key (.vw ((nb rows.length).set i t2) rows))))),_,_,_,λ C => ?_,h5,rfl,hv⟩;rw[u4];simp only[c8,hr.ev e D',E2,hr.ev rfl h0,OA hc,ga];rw[if_pos py];simp only[AJ.na,AJ.get,hs,ah,BF.c9,hlen,ya,Da,Ia,Ea,BH];rw[if_pos O'];simp only[va];have Aw:splice ((CB σ key 0 rows)[i]'(by rw[F5];exact hi)) 0 [.row (σ key (t2+1)).1 (σ key (t2+1)).2 z 0 es.length]=[.row (σ key (t2+1)).1 (σ key (t2+1)).2 z 0 es.length]:=by
       simp only[splice,yc,Db,Ia,Ea,Oa];rw[Mb O'];rfl
      rw[Aw]
     ·exact h5.elim
    ·rename_i i0 v0 rows
     split at h5
     ·rename_i y8 z m
      cases fo:za key y8<;>simp only[fo,cond_true,cond_false]at h5;cases bp:K4 key tm<;>simp only[bp,cond_true,cond_false]at h5;cases oe:JN key M<;>simp only[oe,cond_true,cond_false]at h5;cases hj:za j 0<;>simp only[hj,cond_true,cond_false]at h5;obtain rfl:=B1.1 hj;split at h5
      ·rename_i s2 z' es gj
       cases hz:za z z'<;>simp only[hz,cond_true,cond_false]at h5;obtain rfl:=B1.1 hz;rw[QT]at h5;obtain ⟨⟨rfl,rfl⟩,hi,h5⟩:=h5;refine ⟨.dw (.c5 []) (st.own.put s ((st.own s).q6 (σ key 0).2 (some ⟨1,(CB σ key 0 rows).set i [.row (σ y8 0).1 (σ y8 0).2 z 0 es.length]⟩))),_,_,_,λ C => ?_,h5,rfl,hr.Ep hm (Or.inr ⟨v0,rfl⟩) gj (GJ.1 fo) bp oe hi⟩;simp only[c8,hr.ev e D',E2,hr.ev rfl h0,OA hc,ga];rw[if_pos py];simp only[AJ.na,AJ.get,hs,ah,BF.c9,ja (show i<(CB σ key 0 rows).length by rw[F5];exact hi),ya,Da,Ia,Ea,BH];rw[if_pos O'];simp only[va,List.set_set];rfl
      ·exact h5.elim
     ·exact h5.elim
    ·rename_i w rows
     split at h5
     ·rename_i y8 t2 z m
      cases fo:za key y8<;>simp only[fo,cond_true,cond_false]at h5;cases hj:za j 0<;>simp only[hj,cond_true,cond_false]at h5;obtain rfl:=B1.1 hj;obtain rfl:=B1.1 fo;obtain ⟨z',es,g0,h5⟩:=h5;cases hz:za z z'<;>simp only[hz,cond_true,cond_false]at h5;obtain rfl:=B1.1 hz;obtain ⟨⟨rfl,hi,hwr⟩,h5⟩:=h5;have u4:BF.c9 σ key (.vw (w.set i t2) rows)=⟨1,(w.map λ t=>((CB σ key 0 rows)[t]?).getD []).set i [.row (σ key (t2+1)).1 (σ key (t2+1)).2 z 0 es.length]⟩:=by
       simp only[BF.c9];congr 1;apply Ka;intro p;rw[Ma];by_cases hp:i=p
       ·subst hp
        rw[ja hi,ja (by rw[ga];exact hi),va,F4,g0];simp
       ·rw[ea hp,ea hp,Ma]
      have hv:=hr.view (w:=w.set i t2) hm (Or.inr ⟨w,rfl⟩);have hlen:(w.map λ t=>((CB σ key 0 rows)[t]?).getD [])[i]? = some ((w.map λ t=>((CB σ key 0 rows)[t]?).getD [])[i]'(by rw[ga];exact hi)):=zE _;have iz:((w.map λ t=>((CB σ key 0 rows)[t]?).getD [])[i]'(by rw[ga];exact hi)).length=1:=by
       rw[List.getElem_map];have j9:=hwr w[i] (List.getElem_mem hi);rw[F4,zE j9];simp only[va,Fb];split<;>rfl
      refine ⟨.dw (.c5 []) (st.own.put s ((st.own s).q6 (σ key 0).2 (some (BF.c9 σ key (.vw (w.set i t2) rows))))),_,_,_,λ C => ?_,h5,rfl,hv⟩;rw[u4];simp only[c8,hr.ev e D',E2,hr.ev rfl h0,OA hc,ga];rw[if_pos py];simp only[AJ.na,AJ.get,hs,ah,BF.c9,hlen,ya,Da,Ia,Ea,BH];rw[if_pos O'];simp only[va];have Aw:splice ((w.map λ t=>((CB σ key 0 rows)[t]?).getD [])[i]'(by rw[ga];exact hi)) 0 [.row (σ key (t2+1)).1 (σ key (t2+1)).2 z 0 es.length]=[.row (σ key (t2+1)).1 (σ key (t2+1)).2 z 0 es.length]:=by
       simp only[splice,yc,Db,Ia,Ea,Oa];rw[Mb O'];rfl
      rw[Aw]
     ·exact h5.elim
   ·rename_i i'
    split at h5
    ·rename_i rows
     cases hd:EJ vs<;>simp only[hd,cond_true,cond_false]at h5;obtain ⟨z,es,g0,cs,g1,g2,g3,h5⟩:=h5;have ah:=hr.sat.c9 key (i'+1) (.rw z es) (by simp [a9,hm,g0]);refine ⟨.dw (.c5 []) (st.own.put (σ key (i'+1)).1 ((st.own (σ key (i'+1)).1).q6 (σ key (i'+1)).2 (some ⟨z,es.set i (splice cs j vs)⟩))),σ,_,_,λ C => ?_,h5,rfl,hr.Ru hm g0 g3⟩;simp only[c8,hr.ev e D',E2,hr.ev rfl h0,OA hc,JQ hd];rw[if_pos py];simp only[AJ.na,AJ.get,ah,BF.c9,g1];rw[if_pos g2];rfl
    ·exact h5.elim
  ·exact h5.elim
 ·exact h.elim
theorem AeM {s z bytes:Nat} {zero:u_} {a c:AU} (hr:RX σ tm M st) (h:XE L tm M b7 K (.mk s z bytes zero a c)):BZ L tm b7 K (.mk s z bytes zero a c) st:=by
 simp only[XE]at h;split at h
 ·rename_i k1 p k2 q e1 e2
  cases hz:za zero.length z<;>simp only[hz,cond_true,cond_false]at h;cases hd:EJ zero<;>simp only[hd,cond_true,cond_false]at h;split at h
  ·cases ix:FP s<;>simp only[ix,cond_true,cond_false]at h
   obtain ⟨⟨g1,g2,g3,g4⟩,h⟩:=h;obtain ⟨k,h1,h2,h3⟩:=JI h;have dp:BF.flat (.mx (Fa p.toNat none)):=by
    intro i x hx;have:=List.getElem?_replicate (n:=p.toNat) (a:=(none:P')) (i:=i)
    rw[this]at hx;split at hx<;>cases hx
   have jk:z=1:=(B1.1 hz).symm;have da:BF.c9 σ k (.mx (Fa p.toNat none))=⟨z,Fa p.toNat [.nil]⟩:=by
    simp only[BF.c9,jk];congr 1;have : ∀ (n i:Nat),CB σ k i (Fa n none)=Fa n [AV.nil]:=by
     intro n;induction n with
     | zero=>intro i;rfl
     | succ n ih=>intro i;rw[Rc,Rc,CB,ih]
    exact this _ _
   refine ⟨.new s (BF.c9 σ k (.mx (Fa p.toNat none))) (λ t => .row s t z 0 p.toNat),_,_,_,λ C => ?_,h3,?_,hr.jb h1 h2 (.mx _) dp rfl (λ_=>ix)⟩
   ·simp only[c8,hr.ev e1 D',hr.ev e2 D',IE,da]
    rw[if_pos ⟨g1,g2,g3,g4,B1.1 hz⟩]
   ·simp only[CI.res,EA,B4]
  ·cases ix:FP s<;>simp only[ix,cond_true,cond_false]at h
   obtain ⟨⟨g1,g2,g3,g4⟩,h⟩:=h;obtain ⟨k,h1,h2,h3⟩:=JI h;refine ⟨.new s ⟨z,Fa p.toNat zero⟩ (λ t => .row s t z 0 p.toNat),_,_,_,λ C => ?_,h3,?_,hr.jb h1 h2 (.rw z _) trivial rfl (λ_=>ix)⟩
   ·simp only[c8,hr.ev e1 D',hr.ev e2 D',IE]
    rw[if_pos ⟨g1,g2,g3,g4,B1.1 hz⟩]
   ·simp only[CI.res,EA,B4]
 ·exact h.elim
theorem yU {v:AV} {K:AV->Prop} (h:f2 v K):v ≠ .any/\BM σ v=BT σ v/\K v:=by
 cases v<;>simp only[f2,H8]at h<;>first|exact h.elim|exact ⟨D',rfl,h⟩
theorem Sl : ∀ (vs:u_) (i:Nat),Bb vs i ≠ .any->vs[i]? = some (Bb vs i)
 | [],_,h=>absurd rfl h
 | _::_,0,_=>rfl
 | _::r,i+1,h=>Sl r i h
theorem AeD {x:AU} {i:Nat} (hr:RX σ tm M st) (h:XE L tm M b7 K (.ext x i)):BZ L tm b7 K (.ext x i) st:=by
 simp only[XE]at h;split at h
 ·rename_i vs e
  obtain ⟨h1,h2,h3⟩:=yU (σ:=σ) h;refine BZ.val hr _ (λ C => ?_) h3;simp only[c8,hr.ev e D',J4,Ma,Sl vs i h1,va,h2]
 ·exact h.elim
theorem AeL {x:AU} (hr:RX σ tm M st) (h:XE L tm M b7 K (.len x)):BZ L tm b7 K (.len x) st:=by
 simp only[XE]at h;split at h
 ·rename_i q es e
  exact BZ.val hr _ (λ C=>by simp only[c8,hr.ev e D',JG,QZ];rfl) h.h
 ·rename_i e
  exact BZ.val hr _ (λ C=>by simp only[c8,hr.ev e D',GO,QZ];rfl) h
 ·rename_i e
  exact BZ.val hr _ (λ C=>by simp only[c8,hr.ev e D',EA,QZ];rfl) h
 ·exact h.elim
theorem Se {mx:Bool} {k:IntKind} {K:AV->Prop} : ∀ {l:u_} {a:Int},WZ mx k K a l -> ∃ n,L6 mx (.int k a) l=some (.int k n)/\K (.int k n)/\(∀ v∈l,v ≠ .any/\BM σ v=v)
 | [],a,h=>⟨a,rfl,h,λ v hv=>by cases hv⟩
 | v::r,a,h=>by
  cases v with
  | int k' b =>
   have h:(bif mx then AF (a<b) (b<=a) (WZ mx k K b r) (WZ mx k K a r) else AF (b<a) (a<=b) (WZ mx k K b r) (WZ mx k K a r)):=h;have fin : ∀ c:Int,Q5 mx (.int k a) (.int k' b)=some (.int k c)->WZ mx k K c r -> ∃ n,L6 mx (.int k a) (.int k' b::r)=some (.int k n)/\K (.int k n)/\(∀ v∈AV.int k' b::r,v ≠ .any/\BM σ v=v):=by
    intro c hc hx;obtain ⟨n,h1,h2,h3⟩:=Se hx;refine ⟨n,by simp only[L6,hc,h1],h2,λ v hv => ?_⟩;rcases ub.1 hv with rfl|hv
    ·exact ⟨D',rfl⟩
    ·exact h3 v hv
   cases mx
   ·simp only[cond_false]at h
    by_cases hc:b<a
    ·exact fin b (by simp [Q5,hc]) (h.1 hc)
    ·exact fin a (by simp [Q5,hc]) (h.2 O')
   ·simp only[cond_true]at h
    by_cases hc:a<b
    ·exact fin b (by simp [Q5,hc]) (h.1 hc)
    ·exact fin a (by simp [Q5,hc]) (h.2 O')
  | _=>exact (h:False).elim
theorem AeP {mx:Bool} {xs:List AU} (hr:RX σ tm M st) (h:XE L tm M b7 K (.mm mx xs)):BZ L tm b7 K (.mm mx xs) st:=by
 simp only[XE]at h;split at h
 ·rename_i k a r e
  obtain ⟨n,h1,h2,h3⟩:=Se (σ:=σ) h;refine BZ.val hr (.int k n) (λ C => ?_) h2;have hx : ∀ v∈SM tm xs,v ≠ .any:=by
   rw[e];intro v hv;rcases ub.1 hv with rfl|hv
   ·intro e;cases e
   ·exact (h3 v hv).1
  have hm:(SM tm xs).map (BM σ) = .int k a::r:=by
   rw[e,ya];congr 1;conv=>rhs;rw[<-Ec r]
   exact Pa λ v hv=>(h3 v hv).2
  simp only[c8];rw[show xs.map st.ev = .int k a::r from (evL hr hx).trans hm];simp only[h1,va,IE]
 ·exact h.elim
theorem Amp (hr:RX σ tm M st) {k t:Nat} {K:Nat->o_->Prop} (h:qD M k t K) : ∃ z es,(st.own (σ k t).1).c9 (σ k t).2=some ⟨z,es⟩/\K z es:=by
 unfold qD at h;split at h
 ·rename_i s c hm
  split at h
  ·split at h
   ·exact ⟨_,_,hr.sat.c9 _ _ _ (EW hm),h⟩
   ·exact h.elim
  ·rename_i i
   split at h
   ·rename_i rows
    obtain ⟨z,es,g,h⟩:=h;exact ⟨z,es,hr.sat.c9 k (i+1) (.rw z es) (by simp [a9,hm,g]),h⟩
   ·exact h.elim
 ·exact h.elim
theorem Am1 {own m4:AJ} {s t i j:Nat} {vs:u_} (h:own.na s t i j vs=some m4):own.put s (m4 s)=m4:=by
 unfold AJ.na at h;cases hg:own.get s t with
 | none=>simp [hg]at h
 | some b =>
  simp only[hg]at h;cases he:b.es[i]? with
  | none=>simp [he]at h
  | some cs =>
   simp only[he]at h;split at h
   ·obtain rfl:=sa h
    rw[AJ.j7]
   ·cases h
theorem AeU {s n:Nat} {x v:AU} (hr:RX σ tm M st) (h:XE L tm M b7 K (.pe s n x v)):BZ L tm b7 K (.pe s n x v) st:=by
 simp only[XE]at h;split at h
 ·rename_i key i j e1
  split at h
  ·rename_i s' c hm
   cases hb:za s' s<;>simp only[hb,cond_true,cond_false]at h;obtain rfl:=B1.1 hb;have gb:=hr.sat.site _ _ _ hm;obtain ⟨E,σ',v',M',h1,h2,h3,h4⟩:=sS (b7:=b7) (L:=L) hr (show XE L tm M b7 K (.st n x v) from h);have bf:=hr.ev e1 D';rw[E2,gb]at bf;have key : ∀ vs,cellsOf (st.ev v)=some vs->vs.length=n -> ∃ o',st.own.na s' (σ key 0).2 i j vs=some o'/\E = .dw (.c5 []) o':=λ vs ik hn=>by
    have:=h1 0
    simp only[c8,bf,ik]at this;rw[if_pos hn,Option.map_eq_some_iff]at this;obtain ⟨o',a1,a2⟩:=this;exact ⟨o',a1,a2.symm⟩
   cases ik:cellsOf (st.ev v) with
   | none=>have:=h1 0;simp [c8,bf,ik]at this
   | some vs =>
    by_cases hn:vs.length=n
    ·obtain ⟨o',a1,rfl⟩:=key vs ik hn
     refine ⟨.q6 s' (o' s'),σ',v',M',λ C => ?_,h2,h3,?_⟩
     ·simp only[c8,bf,ik]
      rw[if_pos ⟨trivial,hn⟩,a1];rfl
     ·have e2:(CI.res st.own (.q6 s' (o' s'))).2=o':=Am1 a1
      rw[e2];exact h4
    ·have:=h1 0
     simp only[c8,bf,ik]at this;rw[if_neg hn]at this;cases this
  ·exact h.elim
 ·exact h.elim
theorem AeI {ne:Bool} {x:AU} (hr:RX σ tm M st) (h:XE L tm M b7 K (.uq ne x)):BZ L tm b7 K (.uq ne x) st:=by
 simp only[XE]at h;split at h
 ·rename_i e1
  rw[QS]at h;exact BZ.val hr _ (λ C=>by simp only[c8,hr.ev e1 D',GO,ID]) h
 ·rename_i b e1
  rw[QS]at h;exact BZ.val hr _ (λ C=>by simp only[c8,hr.ev e1 D',Amq,ID]) h
 ·rename_i q es e1
  obtain ⟨h0,h⟩:=h;rw[QS]at h;cases es with
  | nil=>exact absurd rfl h0
  | cons e es=>exact BZ.val hr _ (λ C=>by simp only[c8,hr.ev e1 D',JG,ID]) h
 ·rename_i s t z o n e1
  obtain ⟨h0,h⟩:=h;rw[QS]at h;cases n with
  | zero=>exact absurd h0 O'
  | succ n=>exact BZ.val hr _ (λ C=>by simp only[c8,hr.ev e1 D',EA,ID]) h
 ·exact h.elim
theorem AeB {x:AU} (hr:RX σ tm M st) (h:XE L tm M b7 K (.fx x)):BZ L tm b7 K (.fx x) st:=by
 simp only[XE]at h;split at h
 ·rename_i e
  exact BZ.val hr _ (λ C=>by simp only[c8,hr.ev e D',GO];rfl) h
 ·exact h.elim
theorem Aev {s z bytes:Nat} {x y:AU} (hr:RX σ tm M st) (h:XE L tm M b7 K (.pg s z bytes x y)):BZ L tm b7 K (.pg s z bytes x y) st:=by
 simp only[XE]at h;split at h
 ·rename_i k n e1 e2
  cases ix:FP s<;>simp only[ix,cond_true,cond_false]at h;obtain ⟨⟨g1,g2,g3⟩,h⟩:=h;obtain ⟨k,h1,h2,h3⟩:=JI h;refine ⟨.new s ⟨z,[]⟩ (λ t => .row s t z 0 n.toNat),_,_,_,λ C => ?_,h3,?_,hr.jb h1 h2 (.rw z []) trivial rfl (λ_=>ix)⟩
  ·simp only[c8,hr.ev e1 D',hr.ev e2 D',IE,GO]
   rw[if_pos ⟨g1,g2,g3⟩]
  ·simp only[CI.res,EA,B4]
 ·exact h.elim
theorem AeS {tb:N'} {x:AU} (hr:RX σ tm M st) (h:XE L tm M b7 K (.gx tb x)):BZ L tm b7 K (.gx tb x) st:=by
 simp only[XE]at h;split at h
 ·rename_i k n e1
  obtain ⟨h0,v,h1,h2⟩:=h;exact BZ.val hr _ (λ C=>by simp only[c8,hr.ev e1 D',IE,h1];rw[if_pos h0]) h2
 ·exact h.elim
theorem AiR {v:AV} {K:AV->Prop} (h:fF v K):v ≠ .any/\HS (BM σ v)=some (BH σ v)/\K v:=by
 cases v<;>first|exact (h:False).elim|exact ⟨D',rfl,h⟩
theorem Wj (hr:RX σ tm M st) : ∀ {l:List AU} {K:u_->Prop},pG tm l K -> ∃ cs,l.mapM (λ x=>HS (st.ev x))=some (cs.map (BH σ))/\K cs
 | [],K,h=>⟨[],rfl,h⟩
 | x::r,K,h=>by
  obtain ⟨h0,hc,h⟩:=AiR (σ:=σ) (show fF (ex tm x) λ v=>pG tm r λ cs=>K (v::cs) from h);obtain ⟨cs,h1,h2⟩:=Wj hr h;refine ⟨ex tm x::cs,?_,h2⟩;rw[oa,h1,hr.ev rfl h0,hc];rfl
theorem AeO {p:Bool} {f:Nat} {xs:List AU} (hr:RX σ tm M st) (h:XE L tm M b7 K (.ri p f xs)):BZ L tm b7 K (.ri p f xs) st:=by
 simp only[XE]at h;obtain ⟨cs,h1,h2⟩:=Wj hr h;exact BZ.val hr _ (λ C=>by simp only[c8,h1,va,bR,List.isEmpty_map];rfl) h2
theorem AeN {f:Nat} {x:AU} (hr:RX σ tm M st) (h:XE L tm M b7 K (.ti f x)):BZ L tm b7 K (.ti f x) st:=by
 simp only[XE]at h;split at h
 ·rename_i c cs e1
  exact BZ.val hr _ (λ C=>by simp only[c8,hr.ev e1 D',IU,bR,ya];rfl) h
 ·exact h.elim
theorem Ahf (hr:RX σ tm M st) {v:AV} {K:o_->Prop} (h:eI M v K):v ≠ .any /\ ∃ es,FO st.own (BM σ v)=some es/\K es:=by
 cases v with
 | sl q es=>exact ⟨D',_,rfl,h⟩
 | nil=>exact ⟨D',_,rfl,h⟩
 | cp v =>
  cases v with
  | bool b=>exact ⟨D',_,rfl,h⟩
  | _=>exact (h:False).elim
 | row key t z off len =>
  simp only[eI]at h;obtain ⟨z',es,g,h⟩:=Amp hr h;cases hz:za z z'<;>simp only[hz,cond_true,cond_false]at h;obtain rfl:=B1.1 hz;refine ⟨D',_,?_,h.2⟩;simp only[EA,FO,AJ.get,g];rw[if_pos ⟨h.1,trivial⟩]
 | _=>exact (h:False).elim
theorem pH (hr:RX σ tm M st) {o:Option AU} {K:Option Int->Prop} (h:gW tm o K):(o=none/\K none) \/ ∃ x k n,o=some x/\st.ev x = .int k n/\K (some n):=by
 unfold gW at h;split at h
 ·exact Or.inl ⟨rfl,h⟩
 ·split at h
  ·rename_i e
   exact Or.inr ⟨_,_,_,rfl,hr.ev e D',h⟩
  ·exact h.elim
theorem AeT {z:Nat} {x:AU} {lo hi:Option AU} (hr:RX σ tm M st) (h:XE L tm M b7 K (.di z x lo hi)):BZ L tm b7 K (.di z x lo hi) st:=by
 simp only[XE]at h;have go : ∀ (a b:Option Int),(match ex tm x with
   | .sl l es=>CF z es a b λ es=>K (.sl l es) M
   | .row key t z' off len=>bif za z' z then B6 a b len λ a h=>K (.row key t z (off+a) (h-a)) M else False
   | .nil=>(match a,b with
    | none,none=>K .nil M
    | some a,none=>AL (a=0) (K .nil M)
    | none,some h=>AL (h=0) (K .nil M)
    | some a,some h=>AL (a=0/\h=0) (K .nil M))
   | _=>False)->(lo=none/\a=none \/ ∃ y k n,lo=some y/\st.ev y = .int k n/\a=some n)->(hi=none/\b=none \/ ∃ y k n,hi=some y/\st.ev y = .int k n/\b=some n)->BZ L tm b7 K (.di z x lo hi) st:=by
  intro a b h ha hb;split at h
  ·rename_i q es e
   obtain ⟨g1,a',h',g2,g3,g4,h⟩:=h;refine BZ.val hr _ (λ C => ?_) h;rcases ha with ⟨rfl,rfl⟩|⟨y,k,n,rfl,e1,rfl⟩<;>rcases hb with ⟨rfl,rfl⟩|⟨y',k',n',rfl,e2,rfl⟩<;>try simp only at g2 g3<;>simp only[c8,hr.ev e D',JG, *]<;>simp_all
  ·rename_i key t z' off len e
   cases hz:za z' z<;>simp only[hz,cond_true,cond_false]at h;obtain rfl:=B1.1 hz;obtain ⟨a',h',g2,g3,g4,h⟩:=h;refine BZ.val hr _ (λ C => ?_) h;rcases ha with ⟨rfl,rfl⟩|⟨y,k,n,rfl,e1,rfl⟩<;>rcases hb with ⟨rfl,rfl⟩|⟨y',k',n',rfl,e2,rfl⟩<;>try simp only at g2 g3<;>simp only[c8,hr.ev e D',EA, *]<;>simp_all
  ·rename_i e
   rcases ha with ⟨rfl,rfl⟩|⟨y,k,n,rfl,e1,rfl⟩<;>rcases hb with ⟨rfl,rfl⟩|⟨y',k',n',rfl,e2,rfl⟩<;>simp only at h
   ·exact BZ.val hr .nil (λ C=>by simp only[c8,hr.ev e D',GO]) h
   ·exact BZ.val hr .nil (λ C=>by simp only[c8,hr.ev e D',GO,e2,h.1,if_true]) h.2
   ·exact BZ.val hr .nil (λ C=>by simp only[c8,hr.ev e D',GO,e1,h.1,if_true]) h.2
   ·exact BZ.val hr .nil (λ C=>by simp only[c8,hr.ev e D',GO,e1,e2,h.1.1,h.1.2,if_true]) h.2
  ·exact h.elim
 rcases pH hr h with ⟨h1,h⟩|⟨y,k,n,h1,h2,h⟩
 ·rcases pH hr h with ⟨g1,h⟩|⟨y,k,n,g1,g2,h⟩
  ·exact go _ _ h (Or.inl ⟨h1,rfl⟩) (Or.inl ⟨g1,rfl⟩)
  ·exact go _ _ h (Or.inl ⟨h1,rfl⟩) (Or.inr ⟨_,_,_,g1,g2,rfl⟩)
 ·rcases pH hr h with ⟨g1,h⟩|⟨y',k',n',g1,g2,h⟩
  ·exact go _ _ h (Or.inr ⟨_,_,_,h1,h2,rfl⟩) (Or.inl ⟨g1,rfl⟩)
  ·exact go _ _ h (Or.inr ⟨_,_,_,h1,h2,rfl⟩) (Or.inr ⟨_,_,_,g1,g2,rfl⟩)
theorem pZ {s key:Nat} : ∀ {M:Mem},HU s M=false->HU s (o6 key M)=false
 | [],_=>rfl
 | (i,s0,c0)::r,h=>by
  simp only[HU]at h;cases q0:za s i<;>simp only[q0,cond_true,cond_false]at h
  ·cases q1:JE s c0<;>simp only[q1,cond_true,cond_false]at h
   ·simp only[o6]
    cases za key i
    ·simp only[cond_false,HU,q0,q1,pZ h]
    ·simp only[cond_true,pZ h]
   ·cases h
  ·cases h
theorem Aeu {s z bytes:Nat} {x y:AU} (hr:RX σ tm M st) (h:eI M (ex tm y) λ ys=>match ex tm x with
   | .row key 0 z' off len=>bif za off 0 then bif za z' z then (match b9 M key with
    | some (s',.rw il es)=>bif za il z then fM (o6 key M) λ M'=>(BL es len ys z bytes λ es' n=>HM s tm M λ k=>K (.row k 0 z 0 n) ((k,s',.rw z es')::M')) else False
    | _=>False) else False else False
   | .row key (i+1) z' off len=>bif za off 0 then bif za z' z then (match b9 M key with
    | some (sk,.mx rows)=>fM (o6 key M) λ M'=>BO rows i λ il es=>bif za il z then (BL es len ys z bytes λ es' n => ∀ s' v,HM s tm M λ k=>K (.row k 0 z 0 n) ((k,s',.rw z es')::(key,sk,.hx i v (rows.set i none))::M')) else False
    | _=>False) else False else False
   | .nil=>bif FP s then CN ys z bytes λ es n=>HM s tm M λ k=>K (.row k 0 z 0 n) ((k,s,.rw z es)::M) else False
   | _=>False):BZ L tm b7 K (.app s z bytes x y) st:=by
 obtain ⟨h0,ys,hy,h⟩:=Ahf hr h;have vl:FO st.own (st.ev y)=some ys:=by rw[hr.ev rfl h0];exact hy
 split at h
 ·rename_i key z' off len e
  cases ho:za off 0<;>simp only[ho,cond_true,cond_false]at h;cases hz:za z' z<;>simp only[hz,cond_true,cond_false]at h;obtain rfl:=B1.1 ho;obtain rfl:=B1.1 hz;split at h
  ·rename_i s' il es hm
   cases mu:za il z'<;>simp only[mu,cond_true,cond_false]at h;obtain rfl:=B1.1 mu;rw[QT]at h;obtain ⟨g1,g2,g3,g4,h⟩:=h;obtain ⟨k,h1,h2,h3⟩:=JI h;have hs:=hr.sat.site _ _ _ hm;have ah:=hr.sat.c9 _ _ _ (EW hm);have hn:=(hr.kill hm).jb (s:=k) (q:=s') (pZ h1) h2 (.rw il (es.take len++ys)) trivial rfl (λ_=>by have:=hr.sat.low _ _ _ (EW hm) rfl;rwa [hs]at this);have Lv:(st.own.put s' ((st.own s').q6 (σ key 0).2 none)).g7 s'=st.own.g7 s':=by simp [AJ.g7,AJ.j7,CO.q6]
   simp only[AJ.j7,AJ.tj,Lv]at hn;refine ⟨.dw (.row s' (st.own.g7 s') il 0 (len+ys.length)) (st.own.put s' (((st.own s').q6 (σ key 0).2 none).new ⟨il,es.take len++ys⟩)),_,_,_,λ C => ?_,h3,?_,hn⟩
   ·rw[hs]at ah
    simp only[c8,vl,hr.ev e D',EA,AJ.get,hs,ah,BF.c9];rw[if_pos g2,if_pos ⟨trivial,trivial,g1,g3,g4⟩]
   ·simp only[CI.res,EA,B4]
  ·exact h.elim
 ·rename_i key i z' off len e
  cases ho:za off 0<;>simp only[ho,cond_true,cond_false]at h;cases hz:za z' z<;>simp only[hz,cond_true,cond_false]at h;obtain rfl:=B1.1 ho;obtain rfl:=B1.1 hz;split at h
  ·rename_i sk rows hm
   rw[QT]at h;obtain ⟨il,es,g0,h⟩:=h;cases mu:za il z'<;>simp only[mu,cond_true,cond_false]at h;obtain rfl:=B1.1 mu;obtain ⟨g1,g2,g3,g4,h⟩:=h;have h:=h (σ key (i+1)).1 (.row (σ key (i+1)).1 (σ key (i+1)).2 il 0 es.length);obtain ⟨k,h1,h2,h3⟩:=JI h;have ah:=hr.sat.c9 key (i+1) (.rw il es) (by simp [a9,hm,g0]);have hn:=hr.Lo (s:=k) (es':=es.take len++ys) hm g0 h1 h2;refine ⟨.dw (.row (σ key (i+1)).1 (st.own.g7 (σ key (i+1)).1) il 0 (len+ys.length)) (st.own.put (σ key (i+1)).1 (((st.own (σ key (i+1)).1).q6 (σ key (i+1)).2 none).new ⟨il,es.take len++ys⟩)),_,_,_,λ C => ?_,h3,?_,hn⟩
   ·simp only[c8,vl,hr.ev e D',EA,AJ.get,ah,BF.c9]
    rw[if_pos g2,if_pos ⟨trivial,trivial,g1,g3,g4⟩]
   ·simp only[CI.res,EA,B4]
  ·exact h.elim
 ·rename_i e
  cases ix:FP s<;>simp only[ix,cond_true,cond_false]at h;obtain ⟨g2,g3,g4,h⟩:=h;obtain ⟨k,h1,h2,h3⟩:=JI h;refine ⟨.dw (.row s (st.own.g7 s) z 0 ys.length) (st.own.put s ((st.own s).new ⟨z,ys⟩)),_,_,_,λ C => ?_,h3,?_,hr.jb h1 h2 (.rw z ys) trivial rfl (λ_=>ix)⟩
  ·simp only[c8,vl,hr.ev e D',GO]
   rw[if_pos g2,if_pos ⟨g3,g4⟩]
  ·simp only[CI.res,EA,B4]
 ·exact h.elim
theorem Ae3 {v:AV} {ky k2 z n:Nat} (h:V2 M v=some (ky,some (k2,z,n))):v = .row ky 0 1 0 1 /\ ∃ sy,b9 M ky=some (sy,.bs 1 [[.row k2 0 z 0 n]]):=by
 unfold V2 at h;split at h
 ·split at h
  ·rename_i hm
   simp only[xa,Qa]at h;obtain ⟨rfl,rfl,rfl,rfl⟩:=h;exact ⟨rfl,_,hm⟩
  ·simp at h
  ·cases h
 ·cases h
theorem Ae2 {v:AV} {ky:Nat} (h:V2 M v=some (ky,none)):v = .row ky 0 1 0 1 /\ ∃ sy,b9 M ky=some (sy,.rw 1 [[.nil]]):=by
 unfold V2 at h;split at h
 ·split at h
  ·simp at h
  ·rename_i hm
   simp only[xa,Qa,and_true]at h;subst h;exact ⟨rfl,_,hm⟩
  ·cases h
 ·cases h
theorem Aet {s z bytes:Nat} {x y:AU} (hr:RX σ tm M st) (h:XE L tm M b7 K (.app s z bytes x y)):BZ L tm b7 K (.app s z bytes x y) st:=by
 simp only[XE]at h;cases hV:qb 800000 s<;>simp only[hV,cond_true,cond_false]at h;split at h
 ·rename_i ky k2 z2 n2 uz
  obtain ⟨qz,sy,An⟩:=Ae3 uz;have nk:=hr.sat.site _ _ _ An;have uc:=hr.sat.c9 _ _ _ (EW An);rw[nk]at uc
  have Jp:FO st.own (st.ev y)=some [[.row (σ k2 0).1 (σ k2 0).2 z2 0 n2]]:=by
   rw[hr.ev qz D'];simp only[EA,FO,AJ.get,nk,uc,BF.c9,BH,ya,Da,Ia,Ea];simp
  split at h
  ·rename_i key z' off len e
   cases ho:za off 0<;>simp only[ho,cond_true,cond_false]at h;cases hz:za z' 1<;>simp only[hz,cond_true,cond_false]at h;cases jk:za z 1<;>simp only[jk,cond_true,cond_false]at h;cases ic:za key k2<;>simp only[ic,cond_true,cond_false]at h;cases Pj:za key ky<;>simp only[Pj,cond_true,cond_false]at h;cases hk3:za k2 ky<;>simp only[hk3,cond_true,cond_false]at h;obtain rfl:=B1.1 ho;obtain rfl:=B1.1 hz;obtain rfl:=B1.1 jk;split at h
   ·rename_i s2 z3 es gj
    cases Jq:za z2 z3<;>simp only[Jq,cond_true,cond_false]at h;obtain rfl:=B1.1 Jq;split at h
    ·rename_i s' rows hm
     rw[QT]at h;obtain ⟨rfl,rfl,g3,g4,h⟩:=h;obtain ⟨k,h1,h2,h3⟩:=JI h;have hs:=hr.sat.site _ _ _ hm;have ah:=hr.sat.c9 _ _ _ (EW hm);rw[hs]at ah;refine ⟨.dw (.row s' (st.own.g7 s') 1 0 (rows.length+1)) (st.own.put s' (((st.own s').q6 (σ key 0).2 none).new ⟨1,CB σ key 0 rows++[[.row (σ k2 0).1 (σ k2 0).2 z2 0 es.length]]⟩)),_,_,_,λ C => ?_,h3,?_,hr.Lp (ky:=ky) hm gj (GJ.1 ic) h1 h2⟩
     ·simp only[c8,Jp,hr.ev e D',EA,AJ.get,hs,ah,BF.c9]
      rw[if_pos Z',if_pos ⟨trivial,trivial,by rw[F5];exact Na _,by simpa using g3,by simpa using g4⟩];rw[zT (by rw[F5];exact Na _)];rfl
     ·simp only[CI.res,EA,B4]
    ·exact h.elim
   ·exact h.elim
  ·rename_i e
   cases ix:FP s<;>simp only[ix,cond_true,cond_false]at h;cases jk:za z 1<;>simp only[jk,cond_true,cond_false]at h;obtain rfl:=B1.1 jk;split at h
   ·rename_i s2 z3 es gj
    cases Jq:za z2 z3<;>simp only[Jq,cond_true,cond_false]at h;obtain rfl:=B1.1 Jq;rw[QT]at h;obtain ⟨⟨rfl,g3⟩,h⟩:=h;obtain ⟨k,h1,h2,h3⟩:=JI h;obtain ⟨σ',q1,q2⟩:=hr.Rt (q:=s) gj (λ e=>(XA h1 _ _ _ gj).1 e.symm) h1 h2 ix;refine ⟨.dw (.row s (st.own.g7 s) 1 0 1) (st.own.put s ((st.own s).new ⟨1,[[.row (σ k2 0).1 (σ k2 0).2 z2 0 es.length]]⟩)),σ',_,_,λ C => ?_,h3,?_,q2⟩
    ·simp only[c8,Jp,hr.ev e D',GO]
     rw[if_pos Z',if_pos ⟨by simpa [DX] using g3,Z'⟩];rfl
    ·simp only[CI.res,EA,q1]
   ·exact h.elim
  ·exact h.elim
 ·rename_i ky uz
  obtain ⟨qz,sy,An⟩:=Ae2 uz;have nk:=hr.sat.site _ _ _ An;have uc:=hr.sat.c9 _ _ _ (EW An);rw[nk]at uc
  have Jp:FO st.own (st.ev y)=some [[.nil]]:=by
   rw[hr.ev qz D'];simp only[EA,FO,AJ.get,nk,uc,BF.c9,Ia,Ea];simp
  split at h
  ·rename_i key z' off len e
   cases ho:za off 0<;>simp only[ho,cond_true,cond_false]at h;cases hz:za z' 1<;>simp only[hz,cond_true,cond_false]at h;cases jk:za z 1<;>simp only[jk,cond_true,cond_false]at h;cases Pj:za key ky<;>simp only[Pj,cond_true,cond_false]at h;obtain rfl:=B1.1 ho;obtain rfl:=B1.1 hz;obtain rfl:=B1.1 jk;split at h
   ·rename_i s' rows hm
    rw[QT]at h;obtain ⟨rfl,g3,g4,h⟩:=h;obtain ⟨k,h1,h2,h3⟩:=JI h;have hs:=hr.sat.site _ _ _ hm;have ah:=hr.sat.c9 _ _ _ (EW hm);rw[hs]at ah;refine ⟨.dw (.row s' (st.own.g7 s') 1 0 (rows.length+1)) (st.own.put s' (((st.own s').q6 (σ key 0).2 none).new ⟨1,CB σ key 0 rows++[[.nil]]⟩)),_,_,_,λ C => ?_,h3,?_,hr.Lq hm h1 h2⟩
    ·simp only[c8,Jp,hr.ev e D',EA,AJ.get,hs,ah,BF.c9]
     rw[if_pos Z',if_pos ⟨trivial,trivial,by rw[F5];exact Na _,by simpa using g3,by simpa using g4⟩];rw[zT (by rw[F5];exact Na _)];rfl
    ·simp only[CI.res,EA,B4]
   ·exact h.elim
  ·rename_i e
   cases ix:FP s<;>simp only[ix,cond_true,cond_false]at h;cases jk:za z 1<;>simp only[jk,cond_true,cond_false]at h;obtain rfl:=B1.1 jk;obtain ⟨g3,h⟩:=h;obtain ⟨k,h1,h2,h3⟩:=JI h;have dp:BF.flat (.mx [none]):=by
    intro i x hx;cases i with
    | zero=>simp at hx
    | succ i=>simp at hx
   refine ⟨.dw (.row s (st.own.g7 s) 1 0 1) (st.own.put s ((st.own s).new ⟨1,[[.nil]]⟩)),_,_,_,λ C => ?_,h3,?_,hr.jb h1 h2 (.mx [none]) dp rfl (λ_=>ix)⟩
   ·simp only[c8,Jp,hr.ev e D',GO]
    rw[if_pos Z',if_pos ⟨by simpa [DX] using g3,Z'⟩];rfl
   ·simp only[CI.res,EA,B4]
  ·exact h.elim
 ·exact Aeu hr h
end
end Go.c6

namespace Go.c6
section
variable {σ:GA} {tm:Tm} {M:Mem} {st:St} {L:Lib} {b7:N'}
theorem Wm {own:AJ} {q:Bool} {d:Nat} : ∀ {e:u_},GE e=true->e.mapM (snap own q d)=some e
 | [],_=>rfl
 | v::r,h=>by
  have hv:snap own q d v=some v/\GE r=true:=by
   cases v<;>simp only[GE]at h<;>first|cases h|exact ⟨by cases d<;>rfl,h⟩
  rw[oa,hv.1,Wm hv.2];rfl
theorem Wo {own:AJ} {q:Bool} {d:Nat} : ∀ {e:u_},NI e=true->e.mapM (snap own q d)=some (e.map nl)
 | [],_=>rfl
 | v::r,h=>by
  have hv:snap own q d v=some (nl v)/\NI r=true:=by
   cases v<;>simp only[NI]at h<;>first|cases h|exact ⟨by cases d<;>rfl,h⟩
  rw[oa,hv.1,Wo hv.2];rfl
theorem Wn {own:AJ} {q:Bool} {d:Nat} : ∀ {es:o_},(∀ e∈es,NI e=true)->es.mapM (λ cs:u_=>cs.mapM (snap own q d))=some (es.map λ e=>e.map nl)
 | [],_=>rfl
 | e::r,h=>by
  rw[oa,Wo (h e fb),Wn λ x hx=>h x (ob _ hx)];rfl
theorem Wl {own:AJ} {q:Bool} {d:Nat} : ∀ {es:o_},(∀ e∈es,GE e=true)->es.mapM (λ cs:u_=>cs.mapM (snap own q d))=some es
 | [],_=>rfl
 | e::r,h=>by
  rw[oa,Wm (h e fb),Wl λ x hx=>h x (ob _ hx)];rfl
theorem Zd (hs:I1 σ st.own M) {q:Bool} {v:AV} {K:AV->Prop} (h:XH q M b7 v K) : ∃ v',(∀ d,snap (st.own.m7 b7) q (d+1) (BH σ v)=some v')/\K v'/\v ≠ .any/\BT σ v=BH σ v:=by
 cases v with
 | row key t z off len =>
  have fin : ∀ (z':Nat) (es:o_),((st.own.m7 b7) (σ key t).1).c9 (σ key t).2=some ⟨z',es⟩->z=z'->A1 es off len (λ es=>K (.sl q es)) -> ∃ v',(∀ d,snap (st.own.m7 b7) q (d+1) (BH σ (.row key t z off len))=some v')/\K v'/\AV.row key t z off len ≠ .any/\BT σ (.row key t z off len)=BH σ (.row key t z off len):=by
   intro z' es hb hz h;subst hz;obtain ⟨h1,h2,h3⟩:=h;refine ⟨_,λ d => ?_,h3,D',rfl⟩;simp only[BH,snap,FO,AJ.get,hb];rw[if_pos ⟨h1,trivial⟩];simp only;rw[Wn λ e he=>h2 e (ec (fc he))];rfl
  simp only[XH]at h;split at h
  ·rename_i s z' es hm
   split at h
   ·cases hz:za z z'<;>simp only[hz,cond_true,cond_false]at h
    cases hb:TQ s b7<;>simp only[hb,cond_true,cond_false]at h;refine fin z' es ?_ (B1.1 hz) h;have ah:=hs.c9 _ _ _ (EW hm);rw[hs.site _ _ _ hm]at ah ⊢;rw[YZ hb];exact ah
   ·exact h.elim
  ·rename_i s rows hm
   split at h
   ·exact h.elim
   ·rename_i i
    split at h
    ·obtain ⟨z',es,g,h⟩:=h
     cases hz:za z z'<;>simp only[hz,cond_true,cond_false]at h;exact fin z' es (hs.c9 key (i+1) (.rw z' es) (by simp [a9,hm,g])) (B1.1 hz) h
    ·rename_i b r
     cases hb:W2 (b::r)<;>simp only[hb,cond_true,cond_false]at h;obtain ⟨z',es,g,h⟩:=h;cases hz:za z z'<;>simp only[hz,cond_true,cond_false]at h;have g':a9 M key (i+1)=some (.rw z' es):=by simp [a9,hm,g]
     refine fin z' es ?_ (B1.1 hz) h;rw[pJ (hs.low _ _ _ g' rfl) hb];exact hs.c9 key (i+1) (.rw z' es) g'
  ·exact h.elim
 | int k n=>exact ⟨_,λ d=>rfl,h,D',rfl⟩
 | bool b=>exact ⟨_,λ d=>rfl,h,D',rfl⟩
 | sl l es=>exact ⟨_,λ d=>rfl,h,D',rfl⟩
 | cp c=>exact ⟨_,λ d=>rfl,h,D',rfl⟩
 | nil=>exact ⟨_,λ d=>rfl,h,D',rfl⟩
 | _=>exact (h:False).elim
theorem Zc (hs:I1 σ st.own M) {q:Bool} : ∀ {l:u_} {K:u_->Prop},iW q M b7 l K -> ∃ l',(∀ d,(l.map (BH σ)).mapM (snap (st.own.m7 b7) q (d+1))=some l')/\K l'
 | [],K,h=>⟨[],λ d=>rfl,h⟩
 | v::r,K,h=>by
  obtain ⟨v',h1,h2,_⟩:=Zd hs (show XH q M b7 v λ v'=>iW q M b7 r λ r'=>K (v'::r') from h);obtain ⟨l',h3,h4⟩:=Zc hs h2;refine ⟨v'::l',λ d => ?_,h4⟩;rw[ya,oa,h1 d,h3 d];rfl
theorem Zb (hs:I1 σ st.own M) {q:Bool} : ∀ {l:o_} {K:o_->Prop},qN q M b7 l K -> ∃ l',(∀ d,(l.map λ cs=>cs.map (BH σ)).mapM (λ cs:u_=>cs.mapM (snap (st.own.m7 b7) q (d+1)))=some l')/\K l'
 | [],K,h=>⟨[],λ d=>rfl,h⟩
 | v::r,K,h=>by
  obtain ⟨v',h1,h2⟩:=Zc hs (show iW q M b7 v λ v'=>qN q M b7 r λ r'=>K (v'::r') from h);obtain ⟨l',h3,h4⟩:=Zb hs h2;refine ⟨v'::l',λ d => ?_,h4⟩;rw[ya,oa,h1 d,h3 d];rfl
theorem qA {own:AJ} {q:Bool} {d:Nat} {k:Nat} : ∀ {rows:List (P')} {i:Nat},(∀ j z es,rows[j]? = some (some (z,es))->(own (σ k (i+j+1)).1).c9 (σ k (i+j+1)).2=some ⟨z,es⟩ /\ ∀ e∈es,GE e=true) ->
  (CB σ k i rows).mapM (λ cs:u_=>cs.mapM (snap own q (d+1)))=some (VC q rows)
 | [],i,h=>rfl
 | none::r,i,h=>by
  rw[CB,oa,qA (i:=i+1) λ j z es hj=>by
   have:=h (j+1) z es (by simpa using hj)
   rwa [show i+(j+1)+1=i+1+j+1 by omega]at this]
  rfl
 | some (z,es)::r,i,h=>by
  rw[CB,oa,qA (i:=i+1) λ j z es hj=>by
   have:=h (j+1) z es (by simpa using hj)
   rwa [show i+(j+1)+1=i+1+j+1 by omega]at this]
  obtain ⟨h1,h2⟩:=h 0 z es rfl;have:snap own q (d+1) (.row (σ k (i+1)).1 (σ k (i+1)).2 z 0 es.length)=some (.sl q es):=by
   simp only[snap,FO,AJ.get];rw[show (own (σ k (i+1)).1).c9 (σ k (i+1)).2=some ⟨z,es⟩ from h1];simp only[Oa,Na,and_self,if_true,Kb];rw[zT (Na _),Wl h2];rfl
  rw[oa,this];rfl
theorem Za (hs:I1 σ st.own M) {q:Bool} {v:AV} {K:AV->Prop} (h:bW q M b7 v K) : ∃ v',snap (st.own.m7 b7) q 6 (BH σ v)=some v'/\K v'/\v ≠ .any/\BT σ v=BH σ v/\DE (st.own.m7 b7) q (BH σ v)=some v':=by
 have vt:XH q M b7 v K -> ∃ v',snap (st.own.m7 b7) q 6 (BH σ v)=some v'/\K v'/\v ≠ .any/\BT σ v=BH σ v/\DE (st.own.m7 b7) q (BH σ v)=some v':=by
  intro h;obtain ⟨v',h1,h2,h3,h4⟩:=Zd hs h;refine ⟨v',h1 5,h2,h3,h4,?_⟩;have:=h1 5
  cases v<;>first|exact this|exact (h:False).elim
 unfold bW at h;split at h
 ·rename_i key z off len
  split at h
  ·rename_i s z' es hm
   cases hz:za z z'<;>simp only[hz,cond_true,cond_false]at h;cases hb:TQ s b7<;>simp only[hb,cond_true,cond_false]at h;cases ho:za off 0<;>simp only[ho,cond_true,cond_false]at h;obtain rfl:=B1.1 hz;obtain rfl:=B1.1 ho;obtain ⟨rfl,h⟩:=h;obtain ⟨l',h1,h2⟩:=Zb hs h;have ah:=hs.c9 _ _ _ (EW hm);rw[hs.site _ _ _ hm]at ah;have key:snap (st.own.m7 b7) q 6 (BH σ (.row key 0 z 0 es.length))=some (.sl q l'):=by
    simp only[BH,snap,FO,AJ.get,hs.site _ _ _ hm];rw[YZ hb,ah];simp only[BF.c9,Oa,ga,Na,and_self,if_true,Kb];rw[zT Z',h1 4];rfl
   exact ⟨_,key,h2,D',rfl,key⟩
  ·rename_i s rows hm
   split at h
   ·cases hz:za z 1<;>simp only[hz,cond_true,cond_false]at h
    obtain rfl:=B1.1 hz;obtain ⟨rfl,rfl,h1,h2⟩:=h;have ah:=hs.c9 _ _ _ (EW hm);have key:snap (st.own.m7 []) q 6 (BH σ (.row key 0 1 0 rows.length))=some (.sl q (VC q rows)):=by
     simp only[BH,snap,FO,AJ.get,AJ.m7];rw[ah];simp only[BF.c9,Oa,F5,Na,and_self,if_true,Kb];rw[zT (by rw[F5];exact Na _),qA (i:=0) λ j z es hj=>⟨by
      have:=hs.c9 key (j+1) (.rw z es) (by simp [a9,hm,hj])
      simpa [BF.c9] using this,h1 z es (zM hj)⟩]
     rfl
    exact ⟨_,key,h2,D',rfl,key⟩
   ·exact h.elim
  ·exact vt h
 ·exact vt h
theorem Ze (hs:I1 σ st.own M) {q:Bool} : ∀ {l:u_} {K:u_->Prop},qO q M b7 l K -> ∃ l',(l.map (BH σ)).mapM (snap (st.own.m7 b7) q 6)=some l'/\K l'
 | [],K,h=>⟨[],rfl,h⟩
 | v::r,K,h=>by
  obtain ⟨v',h1,h2,_⟩:=Za hs (show bW q M b7 v λ v'=>qO q M b7 r λ r'=>K (v'::r') from h);obtain ⟨l',h3,h4⟩:=Ze hs h2;refine ⟨v'::l',?_,h4⟩;rw[ya,oa,h1,h3];rfl
theorem iV (hs:I1 σ st.own M) {q:Bool} {v:AV} {K:AV->Prop} (h:RH q M b7 v K) : ∃ v',DE (st.own.m7 b7) q (BM σ v)=some v'/\K v'/\v ≠ .any/\BM σ v=BT σ v:=by
 cases v with
 | agg cs =>
  simp only[RH]at h;obtain ⟨l',h1,h2⟩:=Ze hs h;refine ⟨.agg l',?_,h2,D',rfl⟩;simp only[IU,DE,h1,va]
 | c5 vs=>exact (h:False).elim
 | fn p f g cs=>exact (h:False).elim
 | any=>exact (h:False).elim
 | _ =>
  simp only[RH]at h;obtain ⟨v',h1,h2,h3,h4,h5⟩:=Za hs h;exact ⟨v',h5,h2,h3,rfl⟩
theorem iY (hr:RX σ tm M st) : ∀ {xs:List AU} {K:u_->Prop},bX tm M b7 xs K -> ∃ vs,(xs.map st.ev).mapM (DE (st.own.m7 b7) true)=some vs/\K vs
 | [],K,h=>⟨[],rfl,h⟩
 | x::r,K,h=>by
  obtain ⟨v',h1,h2,h3,_⟩:=iV hr.sat (show RH true M b7 (ex tm x) λ v=>bX tm M b7 r λ vs=>K (v::vs) from h);obtain ⟨l',h4,h5⟩:=iY hr h2;refine ⟨v'::l',?_,h5⟩;rw[ya,oa,hr.ev rfl h3,h1,h4];rfl
theorem AmK (hs:I1 σ st.own M) {v:AV} {K:AV->Prop} (h:iX M b7 v K) : ∃ v',P2 (st.own.m7 b7) true (BM σ v)=some v'/\K v'/\v ≠ .any/\BM σ v=BT σ v:=by
 cases v with
 | nil=>exact ⟨.nil,rfl,h,D',rfl⟩
 | _ =>
  simp only[iX]at h;obtain ⟨v',h1,h2,h3,h4⟩:=iV hs h;exact ⟨v',h1,h2,h3,h4⟩
theorem Zf (hr:RX σ tm M st) : ∀ {xs:List AU} {K:u_->Prop},qP tm M b7 xs K -> ∃ vs,(xs.map st.ev).mapM (P2 (st.own.m7 b7) true)=some vs/\K vs
 | [],K,h=>⟨[],rfl,h⟩
 | x::r,K,h=>by
  obtain ⟨v',h1,h2,h3,_⟩:=AmK hr.sat (show iX M b7 (ex tm x) λ v=>qP tm M b7 r λ vs=>K (v::vs) from h);obtain ⟨l',h4,h5⟩:=Zf hr h2;refine ⟨v'::l',?_,h5⟩;rw[ya,oa,hr.ev rfl h3,h1,h4];rfl
theorem YJ (hr:RX σ tm M st) : ∀ {xs:List AU} {K:u_->Prop},WL tm xs K -> ∃ vs,xs.map st.ev=vs.map (BM σ)/\K vs
 | [],K,h=>⟨[],rfl,h⟩
 | x::r,K,h=>by
  obtain ⟨h1,h2⟩:=fJ (show fV (ex tm x) λ v=>WL tm r λ vs=>K (v::vs) from h);obtain ⟨vs,h3,h4⟩:=YJ hr h2;exact ⟨ex tm x::vs,by rw[ya,ya,hr.ev rfl h1,h3],h4⟩
theorem uK {v:AV} (h:A3 v):BH σ v=v:=by
 cases v<;>first|rfl|(simp only[A3]at h)
theorem uI : ∀ {l:u_},B7 l->l.map (BH σ)=l
 | [],_=>rfl
 | v::r,h=>by
  simp only[B7]at h;rw[ya,uK h.1,uI h.2]
theorem uL {v:AV} (h:A3 v):BT σ v=v:=by
 cases v with
 | agg cs=>simp only[A3]at h;simp only[BT,uI h]
 | fn p f g cs=>simp only[A3]at h
 | _=>exact uK (σ:=σ) h
theorem uJ : ∀ {l:u_},B7 l->l.map (BT σ)=l
 | [],_=>rfl
 | v::r,h=>by
  simp only[B7]at h;rw[ya,uL h.1,uJ h.2]
theorem lC {v:AV} (h:A3 v):BM σ v=v:=by
 cases v with
 | c5 cs=>simp only[A3]at h;simp only[BM,uJ h]
 | _=>exact uL (σ:=σ) h
theorem Vg {I:u_->Option (AV × AJ)} {vs:u_} {r:AV} (h:JX I vs=some r):A3 r:=by
 unfold JX at h;split at h
 ·split at h
  ·split at h
   ·obtain rfl:=sa h
    assumption
   ·cases h
  ·cases h
 ·cases h
theorem Ev.clean {f:Nat} {vs:u_} {r:AV} (h:Ev L f vs r):A3 r:=by
 obtain ⟨n,h⟩:=h;unfold H6 ML at h;split at h
 ·split at h
  ·rename_i r1 r2 h1 h2
   split at h
   ·obtain rfl:=sa h
    exact Vg h1
   ·cases h
  ·cases h
 ·exact Vg h
theorem RX.put (h:RX σ tm M st) (d:Nat) {v v':AV} (e:v'=BM σ v):RX σ ((d,v)::tm) M ⟨kb st.tm d v',st.own⟩:=by
 refine ⟨λ j => ?_,h.sat⟩;simp only[tg,cH];cases hb:za j d
 ·rw[if_neg (GJ.1 hb)];exact h.tm j
 ·rw[if_pos (B1.1 hb)];exact Or.inr e
theorem Wp : ∀ {cs:u_},aZ cs=true->cs.map (BM σ)=cs.map (BH σ)
 | [],_=>rfl
 | v::r,h=>by
  simp only[aZ]at h;cases hv:pK v<;>simp only[hv,cond_true,cond_false]at h
  ·cases h
  ·rw[ya,ya,Wp h]
   cases v<;>first|rfl|(simp [pK]at hv)
theorem AgZ {v:AV} (h:HE v=true):BH σ v=v:=by cases v<;>first|rfl|(simp [HE]at h)
theorem vZ : ∀ {cs:u_},cs.all HE=true->cs.map (BH σ)=cs
 | [],_=>rfl
 | c::r,h=>by
  simp only[qa,ua]at h;rw[ya,AgZ h.1,vZ h.2]
theorem wA : ∀ {vs:u_},vs.all dq=true->vs.map (BM σ)=vs
 | [],_=>rfl
 | v::r,h=>by
  simp only[qa,ua]at h;rw[ya,wA h.2];congr 1;cases v with
  | agg cs=>simp only[BM,BT,vZ (show cs.all HE=true from h.1)]
  | _=>first|rfl|(simp [dq,HE]at h)
theorem AkF {r:AV} (hc:A3 r) (hf:KY r):BM σ (Bc r)=Bc r:=by
 cases r with
 | agg cs =>
  simp only[Bc,BM,BT];congr 1;rw[zb];refine Pa λ c oe => ?_
  have:=hf c oe
  cases c<;>first|rfl|exact this.elim
 | _=>first|rfl|exact hf.elim
theorem AkB {c:AV} (h:A3 c):BH σ (IA c)=IA c:=by
 cases c<;>first|(simp only[IA,BH];done)|(simp only[A3]at h;done)
theorem oN {r:AV} (h:A3 r) (hd:cN r):BT σ (JU r)=JU r:=by
 cases r with
 | agg cs =>
  simp only[A3]at h;have : ∀ cs:u_,B7 cs->(NE cs).map (BH σ)=NE cs:=by
   intro cs;induction cs with
   | nil=>intro _;simp [NE]
   | cons c l ih =>
    intro h;simp only[B7]at h;rw[NE,ya,ih h.2,AkB h.1]
  simp only[JU,BT,this cs h]
 | c5=>exact hd.elim
 | fn=>exact hd.elim
 | _=>first|(simp only[JU,IA,BT,BH];done)|(simp only[A3]at h;done)
theorem AkC {r:AV} (h:A3 r) (hd:VT r):BM σ (L4 r)=L4 r:=by
 cases r with
 | c5 vs =>
  simp only[A3]at h;have : ∀ vs:u_,B7 vs->(∀ v∈vs,cN v)->(vs.map JU).map (BT σ)=vs.map JU:=by
   intro vs;induction vs with
   | nil=>intro _ _;rfl
   | cons v l ih =>
    intro h hd;simp only[B7]at h;rw[ya,ya,ih h.2 λ x hx=>hd x (ob _ hx),oN h.1 (hd v fb)]
  simp only[L4,BM,this vs h hd]
 | fn=>exact hd.elim
 | agg cs=>exact oN h trivial
 | _=>first|exact oN h trivial|(simp only[L4,JU,IA,BM,BT,BH];done)|(simp only[A3]at h;done)
theorem AkD {r:AV} (h:A3 r) (hd:KY r\/VT r):BM σ (NF r)=NF r:=by
 by_cases hf:KY r
 ·rw[oP hf];exact AkF h hf
 ·rw[oO hf];exact AkC h (hd.resolve_left hf)
theorem Uc : ∀ {l:u_},fU l=true->l.map (BM σ)=l
 | [],_=>rfl
 | .int _ _::r,h=>by
  rw[ya,Uc (l:=r) h];rfl
theorem Wb {s:Nat} : ∀ {M:Mem},YY s M=true -> ∀ k s' c,b9 M k=some (s',c)->s'≠s
 | [],_,_,_,_,e=>by cases e
 | (k0,s0,c0)::r,h,k,s',c,e=>by
  simp only[YY]at h;cases hb:za s0 s<;>simp only[hb,cond_true,cond_false]at h
  ·simp only[b9]at e
   cases hk:za k k0<;>simp only[hk,cond_true,cond_false]at e
   ·exact Wb h k s' c e
   ·obtain ⟨rfl,_⟩:=Prod.mk.inj (sa e)
    exact λ e2=>by rw[e2]at hb;simp at hb
  ·cases h
theorem I1.Ct {σ:GA} {own Ju:AJ} {M:Mem} {s:Nat} (h:I1 σ own M) (hl:FP s=false) (hn:YY s M=true) (ho : ∀ q,q≠s->Ju q=own q):I1 σ Ju M:=by
 have k7 : ∀ k t c,a9 M k t=some c->(σ k t).1≠s:=λ k t c e=>by
  cases hr:c.ma with
  | true =>
   intro e2;have:=h.low k t c e hr
   rw[e2,hl]at this;cases this
  | false =>
   obtain ⟨s',c0,g,g1,g2⟩:=IB e;cases t with
   | zero=>rw[h.site k s' c0 g];exact Wb hn k s' c0 g
   | succ i =>
    obtain ⟨rows,z,es,_,_,rfl⟩:=g2 i rfl;cases hr
 exact ⟨h.site,λ k t c e=>by rw[ho _ (k7 k t c e)];exact h.c9 k t c e,λ k t c e=>by rw[ho _ (k7 k t c e)];exact h.old k t c e,h.inj,h.low⟩
theorem AeG {K:AV->Mem->Prop} (hr:RX σ tm M st) {op:EI} (h:XE L tm M b7 K op):BZ L tm b7 K op st\/(∃ f xs,op = .call f xs)\/(∃ f xs,op = .c7 f xs)\/(∃ x xs,op = .m9 x xs)\/(∃ f xs,op = .j6 f xs)\/(∃ s f xs,op = .n7 s f xs) \/ ∃ s f xs,op = .cg s f xs:=by
 cases op with
 | call f xs=>exact Or.inr (Or.inl ⟨_,_,rfl⟩)
 | c7 f xs=>exact Or.inr (Or.inr (Or.inl ⟨_,_,rfl⟩))
 | m9 x xs=>exact Or.inr (Or.inr (Or.inr (Or.inl ⟨_,_,rfl⟩)))
 | j6 f xs=>exact Or.inr (Or.inr (Or.inr (Or.inr (Or.inl ⟨_,_,rfl⟩))))
 | n7 s f xs=>exact Or.inr (Or.inr (Or.inr (Or.inr (Or.inr (Or.inl ⟨_,_,_,rfl⟩)))))
 | cg s f xs=>exact Or.inr (Or.inr (Or.inr (Or.inr (Or.inr (Or.inr ⟨_,_,_,rfl⟩)))))
 | pe s n x v=>exact Or.inl (AeU hr h)
 | uq ne x=>exact Or.inl (AeI hr h)
 | bad=>exact (show False from h).elim
 | fx x=>exact Or.inl (AeB hr h)
 | pg s z b x y=>exact Or.inl (Aev hr h)
 | gx tb x=>exact Or.inl (AeS hr h)
 | ri p f xs=>exact Or.inl (AeO hr h)
 | ti f x=>exact Or.inl (AeN hr h)
 | m5 x=>exact Or.inl (AeQ hr h)
 | v5 s z=>exact Or.inl (AeW hr h)
 | pick c a b=>exact Or.inl (AeR hr h)
 | bin o x y=>exact Or.inl (Aex hr h)
 | beq ne x y=>exact Or.inl (Aew hr h)
 | tk ne n x y=>exact Or.inl (Aer hr h)
 | un o x=>exact Or.inl (AeV hr h)
 | conv k x=>exact Or.inl (AeC hr h)
 | box s x=>exact Or.inl (Aey hr h)
 | alloc s z=>exact Or.inl (Aes hr h)
 | build z ps=>exact Or.inl (AeA hr h)
 | a7 s z ps=>exact Or.inl (Aez hr h)
 | j4 x o=>exact Or.inl (AeE hr h)
 | pn x o n a=>exact Or.inl (AeF hr h)
 | u6 a z x i=>exact Or.inl (AeH hr h)
 | ld a n x=>exact Or.inl (AeJ hr h)
 | vm a n x=>exact Or.inl (AeK hr h)
 | st n x v=>exact Or.inl (sS hr h)
 | mk s z b ze l c=>exact Or.inl (AeM hr h)
 | di z x lo hi=>exact Or.inl (AeT hr h)
 | ext x i=>exact Or.inl (AeD hr h)
 | len x=>exact Or.inl (AeL hr h)
 | mm m xs=>exact Or.inl (AeP hr h)
 | app s z b x y=>exact Or.inl (Aet hr h)
theorem kD {K:AV->Mem->Prop} (hr:RX σ tm M st) {op:EI} {d:Option Nat} {g:Option (Nat × Bool)} {l:List AI} {k:List It} {Q:St->Prop} (h:XE L tm M b7 K op) (hg:GD st g=some true)
  (hk : ∀ σ' v v' M' m4,K v M'->v'=BM σ' v->RX σ' tm M' ⟨st.tm,m4⟩->AO L l k ⟨((⟨st.tm,m4⟩:St).dst d v').tm,m4⟩ Q):AO L (⟨d,op,g,b7⟩::l) k st Q:=by
 rcases AeG hr h with ⟨E,σ',v,M',h1,h2,h3,h4⟩|⟨f,xs,rfl⟩|⟨f,xs,rfl⟩|⟨x,xs,rfl⟩|⟨f,xs,rfl⟩|⟨s,f,xs,rfl⟩|⟨s,f,xs,rfl⟩
 ·rw[AdW hg h1,kI]
  have:=hk σ' v _ M' _ h2 h3 h4
  cases d<;>exact this
 ·simp only[XE]at h
  obtain ⟨vs,h1,r,h2,h3⟩:=iY hr h;rw[AdM hg h1 h2];have:=hk σ r r M st.own h3 (lC h2.clean).symm hr
  cases d<;>exact this
 ·simp only[XE]at h
  split at h
  ·rename_i s
   obtain ⟨vs,h1,hF,⟨hl,hn⟩,h2⟩:=YJ hr h;have br:I1 σ (st.own.put s ⟨0,λ_=>none⟩) M:=hr.sat.Ct hl hn λ q hq=>by simp [AJ.put,hq]
   obtain ⟨r,m4,σ',M',⟨n,h3⟩,h4,h5,py,h6⟩:=h2 σ _ br;rw[<-h1]at h3;refine AdL hg (r:=BM σ' r) (o':=m4.put s ⟨0,λ_=>none⟩) (by simp [AJ.put]) ⟨n,λ o ho => ?_⟩ ?_
   ·rw[hF n _ _ o _ _ (λ t=>by simp [AJ.get,AJ.put]) (λ q hq=>by rw[ho q hq];simp [AJ.put,hq]) h3]
    congr 2;funext q
    simp only[AJ.put];split<;>rfl
   ·have:=hk σ' r _ M' ((m4.put s ⟨0,λ_=>none⟩).put s (st.own s)) h6 rfl ⟨λ j=>by rw[h5 j];exact hr.tm j,h4.Ct hl py λ q hq=>by simp [AJ.put,hq]⟩
    cases d<;>exact this
  ·rename_i hb
   obtain ⟨vs,h1,h2⟩:=YJ hr h;obtain ⟨r,m4,σ',M',h3,h4,h5,h6⟩:=h2 σ st.own hr.sat;rw[<-h1]at h3;rw[AdO (λ s e=>hb s e) hg h3];have:=hk σ' r _ M' m4 h6 rfl ⟨λ j=>by rw[h5 j];exact hr.tm j,h4⟩
   cases d<;>exact this
 ·simp only[XE]at h
  split at h
  ·rename_i f g' e1
   obtain ⟨h0,h⟩:=h;obtain ⟨vs,h1,r,h2,h3⟩:=iY hr h;have e2:=hr.ev e1 D';rw[bR,Da,h0]at e2;rw[AdP hg e2 h1 h2];have:=hk σ r r M st.own h3 (lC h2.clean).symm hr
   cases d<;>exact this
  ·rename_i f g' c cs e1
   obtain ⟨h0,h⟩:=h;obtain ⟨v',h1,h,_,_⟩:=iV hr.sat h;obtain ⟨vs,h2,r,h3,h4⟩:=iY hr h;have e2:=hr.ev e1 D';rw[bR,h0]at e2;have h5:(AV.agg (c::cs |>.map (BH σ))::xs.map st.ev).mapM (DE st.own true)=some (v'::vs):=by
    rw[oa,show DE st.own true (AV.agg (c::cs |>.map (BH σ)))=some v' from h1,show (xs.map st.ev).mapM (DE st.own true)=some vs from h2];rfl
   rw[AdN hg e2 h5 h3];have:=hk σ r r M st.own h4 (lC h3.clean).symm hr
   cases d<;>exact this
  ·rename_i f g' cs e1
   cases ho:aZ cs<;>simp only[ho,cond_true,cond_false]at h;obtain ⟨h0,h⟩:=h;obtain ⟨vs,h1,h2⟩:=YJ hr h;rw[H8]at h2;obtain ⟨r,m4,σ',M',h3,h4,h5,h6⟩:=h2 σ st.own hr.sat;rw[Cb,<-h1,Wp (σ:=σ) ho]at h3;have e2:=hr.ev e1 D';rw[bR,h0]at e2;rw[AdS hg e2 h3];have:=hk σ' r _ M' m4 h6 rfl ⟨λ j=>by rw[h5 j];exact hr.tm j,h4⟩
   cases d<;>exact this
  ·exact h.elim
 ·simp only[XE]at h
  obtain ⟨vs,h1,h2⟩:=YJ hr h;cases ho:vs.all dq<;>simp only[ho,cond_true,cond_false]at h2;obtain ⟨r,h3,h4,h5⟩:=h2;have e1:xs.map st.ev=vs:=by rw[h1];exact wA ho
  rw[AdQ hg (by rw[e1];exact ho) (by rw[e1];exact h3) h4];have:=hk σ (NF r) (NF r) M st.own h5 (AkD h3.clean h4).symm hr
  cases d<;>exact this
 ·simp only[XE]at h
  cases Ig:FP s<;>simp only[Ig,cond_true,cond_false]at h;obtain ⟨vs,h1,z,es,n,h2,rfl,h3⟩:=Zf hr h;obtain ⟨k',g1,g2,g3⟩:=JI h3;refine AdR hg h1 h2 ?_;rw[kI];have:=hk (DD σ k' λ_=>(s,st.own.g7 s)) _ (.row s (st.own.g7 s) z 0 es.length) _ _ g3 (by simp only[EA,B4]) (hr.jb (q:=s) g1 g2 (.rw z es) trivial rfl (λ_=>Ig))
  cases d<;>exact this
 ·simp only[XE]at h
  obtain ⟨vs,h1,h2⟩:=YJ hr h;split at h2
  ·rename_i key rest
   cases hi:fU rest<;>simp only[hi,cond_true,cond_false]at h2;obtain ⟨cells,gk,kd,n,g1,g2,g3,g4,g5⟩:=h2;have gb:=hr.sat.site _ _ _ g1;have ah:=hr.sat.c9 _ _ _ (EW g1);rw[gb]at ah;simp only[BF.c9,JQ g2]at ah;have bf:xs.map st.ev = .ptr s (σ key 0).2 0 0::rest:=by
    rw[h1,ya,E2,gb,Uc hi]
   have hE:=g4 (σ key 0).2 (st.own s) ah;refine AdT hg (by rw[bf];exact hE) ?_;rw[kI];have:=hk σ (.int kd n) (.int kd n) _ _ g5 rfl (hr.Rx g1 trivial (.bx gk) trivial (λ h=>by cases h))
   simp only[BF.c9,JQ g3]at this;cases d<;>exact this
  ·exact h2.elim
theorem Ajm (hr:RX σ tm M st) {g:Nat} {w:Bool} {b:Bool} (e:tg tm g = .bool b):GD st (some (g,w))=some (b == w):=by
 rcases hr.tm g with h|h
 ·rw[e]at h;cases h
 ·rw[e]at h
  simp only[GD,h,ID]
theorem Ajn (hr:RX σ tm M st) {g:Nat} {w:Bool} (e:tg tm g = .c5 []):GD st (some (g,w))=some false:=by
 rcases hr.tm g with h|h
 ·rw[e]at h;cases h
 ·rw[e]at h
  simp only[GD,h,J4,Da]
theorem rC {key:Nat} : ∀ (tm:Tm) (j:Nat),tg (Gb key tm) j = .any\/tg (Gb key tm) j=tg tm j
 | [],_=>Or.inl rfl
 | (i,v)::r,j=>by
  simp only[Gb];cases hc:R7 key v<;>cases hb:za j i;all_goals simp only[cond_true,cond_false,tg,hb]
  ·exact rC r j
  ·exact Or.inr trivial
  ·exact rC r j
  ·exact Or.inl trivial
theorem AnN {v:AV} {K:Tm->Prop} (h:xk v tm K) : ∃ ax,(∀ j,tg ax j = .any\/tg ax j=tg tm j)/\K ax:=by
 unfold xk at h;split at h
 ·rw[YL]at h
  exact ⟨_,λ j=>rC _ j,h⟩
 ·exact ⟨_,λ j=>Or.inr rfl,h⟩
theorem sT {k:List It} {Q:Tm->Mem->Prop} : ∀ {l:List AI} {K:Tm->Mem->Prop} {tm:Tm} {M:Mem},XO L l K tm M->(∀ ax M',K ax M'->AA L k ax M' Q)->rT L l k tm M Q
 | [],K,tm,M,h,hk=>λ σ st hr=>AdU.2 (hk tm M h σ st hr)
 | o::l,K,tm,M,h,hk=>by
  intro σ st hr;have h:XI L o (XO L l) K tm M:=h;have ih : ∀ ax M',XO L l K ax M'->rT L l k ax M' Q:=λ ax M' h'=>sT h' hk
  have some_ : ∀ (d:Nat) (op:EI) (g:Option (Nat × Bool)) (b7:N'),GD st g=some true->XE L tm M b7 (λ v M=>XO L l K ((d,v)::tm) M) op->AO L (⟨some d,op,g,b7⟩::l) k st (SQ Q):=by
   intro d op g b7 hg hx;refine kD hr hx hg ?_;intro σ' v v' M' m4 h1 h2 h3;exact ih _ _ h1 σ' _ (h3.put d h2)
  have Er : ∀ (d:Nat) (u:AV) (op:EI) (b7:N'),XE L tm M b7 (λ v M=>xk u tm λ tm=>XO L l K ((d,v)::tm) M) op->AO L (⟨some d,op,none,b7⟩::l) k st (SQ Q):=by
   intro d u op b7 hx;refine kD hr hx rfl ?_;intro σ' v v' M' m4 h1 h2 h3;obtain ⟨ax,g1,g2⟩:=AnN h1;exact ih _ _ g2 σ' _ ((show RX σ' ax M' ⟨st.tm,m4⟩ from ⟨λ j=>(g1 j).elim Or.inl λ e=>by rw[e];exact h3.tm j,h3.sat⟩).put d h2)
  have none_ : ∀ (op:EI) (g:Option (Nat × Bool)) (b7:N'),GD st g=some true->XE L tm M b7 (λ_ M=>XO L l K tm M) op->AO L (⟨none,op,g,b7⟩::l) k st (SQ Q):=by
   intro op g b7 hg hx;refine kD hr hx hg ?_;intro σ' v v' M' m4 h1 h2 h3;exact ih _ _ h1 σ' _ h3
  have Cs : ∀ (d:Option Nat) (op:EI) (g:Option (Nat × Bool)) (b7:N'),GD st g=some false->(match d with|some d=>XO L l K ((d,.c5 [])::tm) M|none=>XO L l K tm M)->AO L (⟨d,op,g,b7⟩::l) k st (SQ Q):=by
   intro d op g b7 hg hx;rw[AdV hg];cases d with
   | none=>exact ih _ _ hx σ _ hr
   | some d=>exact ih _ _ hx σ _ (hr.put d rfl)
  obtain ⟨d,op,g,b7⟩:=o;cases g with
  | none =>
   cases d with
   | none=>exact none_ op none b7 rfl h
   | some d =>
    cases op with
    | app s z b x y=>exact Er d (ex tm x) (.app s z b x y) b7 h
    | _=>exact some_ d _ none b7 rfl h
  | some gw =>
   obtain ⟨g,w⟩:=gw;have h:(match tg tm g with
    | .bool b=>fB (b == w) λ c=>match c,d with
     | true,some d=>XE L tm M b7 (λ v M=>XO L l K ((d,v)::tm) M) op
     | true,none=>XE L tm M b7 (λ_ M=>XO L l K tm M) op
     | false,some d=>XO L l K ((d,.c5 [])::tm) M
     | false,none=>XO L l K tm M
    | .c5 []=>match d with
     | some d=>XO L l K ((d,.c5 [])::tm) M
     | none=>XO L l K tm M
    | _=>False):=by cases d<;>cases op<;>exact h
   split at h
   ·rename_i b e
    rw[QS]at h;have hg:=Ajm hr (w:=w) e;cases hb:(b == w)<;>rw[hb]at h hg
    ·exact Cs d op _ b7 hg (by cases d<;>exact h)
    ·cases d with
     | none=>exact none_ op _ b7 hg h
     | some d=>exact some_ d op _ b7 hg h
   ·rename_i e
    exact Cs d op _ b7 (Ajn hr e) (by cases d<;>exact h)
   ·exact h.elim
theorem kE {Q:Tm->Mem->Prop} : ∀ {n:Nat} {k:List It} {tm:Tm} {M:Mem},XK L Q n k tm M->AA L k tm M Q
 | 0,k,tm,M,h=>h
 | n+1,[],tm,M,h=>λ σ st hr=>AdF.2 ⟨σ,tm,M,hr,h⟩
 | n+1,it::k,tm,M,h=>by
  have h:XS L Q (XK L Q n) (it::k) tm M:=h;have ih : ∀ k tm M,XK L Q n k tm M->AA L k tm M Q:=λ k tm M h=>kE h
  intro σ st hr;cases it with
  | c9 id=>exact Adx.2 (ih _ _ _ h σ st hr)
  | kx ts ss =>
   simp only[XS,AiS,YL]at h;cases ss with
   | cons s r=>exact h.elim
   | nil =>
    refine AdB.2 (ih _ _ _ h σ _ ⟨λ j => ?_,hr.sat⟩);rw[cE,ZC,tO,kO,Bool.false_or];cases hc:ts.contains j
    ·simp only[Bool.false_eq_true,if_false,cond_false]
     exact hr.tm j
    ·exact Or.inl rfl
  | lp c=>exact h σ st hr
  | code c =>
   cases c with
   | skip=>exact AdK.2 (ih _ _ _ h σ st hr)
   | ops l d=>exact AdG.2 (sT h (λ ax M' h'=>ih _ _ _ h') σ st hr)
   | dr c ts ss=>exact AdA.2 (ih _ _ _ h σ st hr)
   | scope c=>exact AdI.2 (ih _ _ _ h σ st hr)
   | seq a b=>exact AdJ.2 (ih _ _ _ h σ st hr)
   | cond x a b =>
    simp only[XS]at h;split at h
    ·rename_i b' e
     rw[QS]at h;rw[Adz (hr.ev e D')];cases b'
     ·simpa using ih _ _ _ h σ st hr
     ·simpa using ih _ _ _ h σ st hr
    ·exact h.elim
   | block id c=>exact Ady.2 (ih _ _ _ h σ st hr)
   | loop c=>exact AdD.2 (rS.1 (h σ st hr))
   | exit id =>
    simp only[XS]at h;split at h
    ·rename_i k' e
     exact (AdC e).2 (ih _ _ _ h σ st hr)
    ·exact h.elim
   | ret=>exact AdH.2 ⟨σ,tm,M,hr,h⟩
theorem Al5 (hr:RX σ tm M st) {r:KW} {K:AV->Prop} (h:bN tm M r K) : ∃ v,F7 st r=some (BM σ v)/\K v/\BM σ v=BT σ v:=by
 cases r with
 | tmp t =>
  simp only[bN]at h;obtain ⟨h1,h2,h3⟩:=yU (σ:=σ) h;refine ⟨_,?_,h3,h2⟩;rcases hr.tm t with e|e
  ·exact absurd e h1
  ·simp only[F7,e]
   cases hv:tg tm t<;>rw[hv]at h h1<;>first|rfl|exact (h:False).elim
 | cell t agg n =>
  simp only[bN]at h;split at h
  ·rename_i key i j e
   split at h
   ·rename_i s cs hm
    cases hi:za i 0<;>simp only[hi,cond_true,cond_false]at h;obtain rfl:=B1.1 hi;split at h
    ·rename_i ds hp
     rw[H8]at h;rcases hr.tm t with e'|e'
     ·rw[e]at e';cases e'
     ·have hs:=hr.sat.site _ _ _ hm
      have ah:=hr.sat.c9 _ _ _ (EW hm);rw[hs]at ah;have flat : ∀ v,LB agg (ds.map (BH σ))=some (BM σ v)->F7 st (.cell t agg n)=some (BM σ v):=by
       intro v hv;simp only[F7,e',e,E2,AJ.rh,AJ.get,hs,ah,BF.c9,Ob,hH hp,hv]
      cases agg
      ·simp only[rm]at h
       split at h
       ·rename_i c
        obtain ⟨_,h1,h2⟩:=yV (σ:=σ) h;refine ⟨c,flat c (by rw[h1];rfl),h2,?_⟩;rw[h1];cases c<;>first|rfl|exact (h:False).elim
       ·exact h.elim
      ·exact ⟨.agg ds,flat _ rfl,h,rfl⟩
    ·exact h.elim
   ·exact h.elim
  ·exact h.elim
theorem pW (hr:RX σ tm M st) : ∀ {l:List KW} {K:u_->Prop},iJ tm M l K -> ∃ vs,l.mapM (F7 st)=some (vs.map (BM σ))/\K vs/\vs.map (BM σ)=vs.map (BT σ)
 | [],K,h=>⟨[],rfl,h,rfl⟩
 | r::l,K,h=>by
  obtain ⟨v,h1,h2,h3⟩:=Al5 hr (show bN tm M r λ v=>iJ tm M l λ vs=>K (v::vs) from h);obtain ⟨vs,h4,h5,h6⟩:=pW hr h2;exact ⟨v::vs,by rw[oa,h1,h4];rfl,h5,by rw[ya,ya,h3,h6]⟩
theorem Yz (hs:I1 σ st.own M) {q:Bool} : ∀ {l:u_} {K:u_->Prop},qM q M l K -> ∃ l',(l.map (BM σ)).mapM (DE st.own q)=some l'/\K l' /\ ∀ v∈l,BM σ v=BT σ v
 | [],K,h=>⟨[],rfl,h,λ v hv=>by cases hv⟩
 | v::r,K,h=>by
  obtain ⟨v',h1,h2,_,h0⟩:=iV hs (show RH q M [] v λ v'=>qM q M r λ r'=>K (v'::r') from h);obtain ⟨l',h3,h4,h5⟩:=Yz hs h2;refine ⟨v'::l',?_,h4,λ u hu => ?_⟩
  ·rw[ya,oa,show DE st.own q (BM σ v)=some v' from h1,h3];rfl
  ·rcases ub.1 hu with rfl|hu
   ·exact h0
   ·exact h5 u hu
theorem AmN {own:AJ} {q:Bool} {v v':AV} (h:DE own q v=some v'):VF own q v=some v':=by
 cases v with
 | c5 vs=>simp [DE,snap]at h
 | _=>exact h
theorem AkI {f:AV->Option AV} {x y:AV} {r l':u_} (h:(x::y::r).mapM f=some l') : ∃ a b c,l'=a::b::c:=by
 rw[oa,oa]at h;cases hx:f x with
 | none=>rw[hx]at h;cases h
 | some a =>
  cases hy:f y with
  | none=>rw[hx,hy]at h;cases h
  | some b =>
   cases hr:r.mapM f with
   | none=>rw[hx,hy,hr]at h;cases h
   | some c =>
    rw[hx,hy,hr]at h;exact ⟨a,b,c,(sa h).symm⟩
theorem sO {fn:AFn} {r:AV} (hr:RX σ tm M st) (h:RZ fn r tm M):ZR fn r st:=by
 unfold RZ at h;obtain ⟨vs,h1,h2,h3⟩:=pW hr h;obtain ⟨l',h4,h5,h6⟩:=Yz hr.sat h2;unfold ZR;rw[h1,va,Option.bind_some];match vs,l',h4,h5 with
 | [],l',h4,h5 =>
  obtain rfl:=sa h4;obtain ⟨e,hc⟩:=h5;exact ⟨by rw[<-e];rfl,hc⟩
 | [v],l',h4,h5 =>
  rw[ya,Da,oa]at h4;cases hv:DE st.own false (BM σ v) with
  | none=>rw[hv]at h4;cases h4
  | some v' =>
   rw[hv]at h4;obtain rfl:=sa h4;obtain ⟨e,hc⟩:=h5;exact ⟨by rw[<-e];exact AmN hv,hc⟩
 | v::u::w,l',h4,h5 =>
  obtain ⟨a,b,c,rfl⟩:=AkI (show Nc (DE st.own false) (BM σ v::BM σ u::w.map (BM σ))=some l' from h4);obtain ⟨e,hc⟩:=h5;refine ⟨?_,hc⟩;rw[<-e];have h4:Nc (DE st.own false) (BM σ v::BM σ u::w.map (BM σ))=some (a::b::c):=h4;show Option.map AV.c5 (Nc (DE st.own false) (BM σ v::BM σ u::w.map (BM σ)))=_;rw[h4];rfl
def SD:AV->Bool
 | .agg cs=>EJ cs
 | v=>vt v
def LT:u_->Bool
 | []=>true
 | v::r=>bif SD v then LT r else false
theorem dZ {v:AV} (h:SD v=true):BM σ v=v:=by
 cases v with
 | agg cs=>simp only[SD]at h;simp only[BM,BT,JQ h]
 | _=>first|rfl|cases h
theorem Z9 {σ:GA} : ∀ {vs:u_} {i:Nat},LT vs=true -> ∀ j,e9 (C5 i vs) j=BM σ (e9 (C5 i vs) j)
 | [],_,_,_=>rfl
 | v::r,i,h,j=>by
  simp only[LT]at h;cases hv:SD v<;>simp only[hv,cond_true,cond_false]at h
  ·cases h
  ·simp only[AjS,cG]
   split
   ·exact (dZ hv).symm
   ·exact Z9 h j
theorem GW.x {f:Nat} {fn:AFn} {vs:u_} {r:AV} (hL:L f=some fn) (hp:za vs.length fn.ay=true) (hd:LT vs=true) (h:AA L [.code fn.body] (C5 0 vs) [] (RZ fn r)):GW L f vs r:=by
 refine GW.fwd hL (B1.1 hp) (AdE (h (λ_ _=>(0,0)) ⟨C5 0 vs,AJ.emp⟩ ⟨λ j=>Or.inr ?_,?_⟩) ?_)
 ·rw[LG];exact Z9 hd j
 ·exact ⟨(λ_ _ _ e=>by cases e),(λ_ _ _ e=>by simp [a9,b9]at e),(λ_ _ _ e=>by simp [a9,b9]at e),(λ_ _ _ _ _ _ e=>by simp [a9,b9]at e),(λ_ _ _ e=>by simp [a9,b9]at e)⟩
 ·rintro s ⟨σ,tm,M,hr,hq⟩
  exact sO hr hq
theorem Ev.x {f:Nat} {fn:AFn} {vs:u_} {r:AV} (hL:L f=some fn) (hp:za vs.length fn.ay=true) (hd:LT vs=true) (h:AA L [.code fn.body] (C5 0 vs) [] (RZ fn r)) (hs:fn.ry=false:=by rfl):Ev L f vs r:=(GW.x hL hp hd h).ev hL hs
def G3:List (Nat × Nat)->Nat->Nat
 | [],k=>k
 | (a,b)::r,k=>bif za k a then b else G3 r k
def iL (τ:List (Nat × Nat)):AV->AV
 | .row k t z o n => .row (G3 τ k) t z o n
 | .ptr k t i j => .ptr (G3 τ k) t i j
 | v=>v
def VB (τ:List (Nat × Nat)):u_->u_
 | []=>[]
 | v::r=>iL τ v::VB τ r
def Y6 (τ:List (Nat × Nat)):AV->AV
 | .agg cs => .agg (VB τ cs)
 | .fn p f g cs => .fn p f g (VB τ cs)
 | v=>iL τ v
def iN (τ:List (Nat × Nat)):u_->u_
 | []=>[]
 | v::r=>Y6 τ v::iN τ r
def iM (τ:List (Nat × Nat)):AV->AV
 | .c5 cs => .c5 (iN τ cs)
 | v=>Y6 τ v
def iO (τ:List (Nat × Nat)):o_->o_
 | []=>[]
 | v::r=>VB τ v::iO τ r
def LD (τ:List (Nat × Nat)):BF->BF
 | .bx cs => .bx (VB τ cs)
 | .rw z es => .rw z es
 | .bs z es => .bs z (iO τ es)
 | .mx rows => .mx rows
 | .hx i v rows => .hx i v rows
 | .vw w rows => .vw w rows
variable {τ:List (Nat × Nat)}
theorem bO : ∀ l:u_,VB τ l=l.map (iL τ)
 | []=>rfl
 | v::r=>by rw[VB,bO r];rfl
theorem Vs : ∀ l:u_,iN τ l=l.map (Y6 τ)
 | []=>rfl
 | v::r=>by rw[iN,Vs r];rfl
theorem jC (v:AV):BH (λ k t=>σ (G3 τ k) t) v=BH σ (iL τ v):=by cases v<;>rfl
theorem qW (v:AV):BT (λ k t=>σ (G3 τ k) t) v=BT σ (Y6 τ v):=by
 cases v with
 | agg cs=>simp only[BT,Y6,bO,zb];exact congrArg AV.agg (Pa λ v _=>jC v)
 | fn p f g cs=>simp only[BT,Y6,bO,zb];exact congrArg (AV.fn p f g) (Pa λ v _=>jC v)
 | _=>rfl
theorem AmV (v:AV):BM (λ k t=>σ (G3 τ k) t) v=BM σ (iM τ v):=by
 cases v with
 | c5 cs=>simp only[BM,iM,Vs,zb];exact congrArg AV.c5 (Pa λ v _=>qW v)
 | agg cs=>exact qW (.agg cs)
 | fn p f g cs=>exact qW (.fn p f g cs)
 | _=>rfl
theorem Vt : ∀ l:o_,iO τ l=l.map (VB τ)
 | []=>rfl
 | v::r=>by rw[iO,Vt r];rfl
theorem aV {k:Nat} : ∀ (rows:List (P')) (i:Nat),CB (λ k t=>σ (G3 τ k) t) k i rows=CB σ (G3 τ k) i rows
 | [],i=>rfl
 | none::r,i=>by rw[CB,CB,aV r]
 | some (z,es)::r,i=>by rw[CB,CB,aV r]
theorem Afi (c:BF) (k:Nat):c.c9 (λ k t=>σ (G3 τ k) t) k=(LD τ c).c9 σ (G3 τ k):=by
 cases c with
 | bx cs =>
  simp only[BF.c9,LD,bO,ga,zb];rw[Pa λ v _=>jC v];rfl
 | rw z es=>rfl
 | bs z es =>
  simp only[BF.c9,LD,Vt,zb];congr 1;refine Pa λ cs _ => ?_
  simp only[Ac,bO,zb];exact Pa λ v _=>jC v
 | mx rows=>simp only[BF.c9,LD,aV]
 | hx i v rows=>simp only[BF.c9,LD,aV]
 | vw w rows=>simp only[BF.c9,LD,aV]
def yi (k s:Nat) (c:BF):Mem->Mem
 | []=>[(k,s,c)]
 | (j,s',c')::r=>bif za k j then (k,s,c)::r else (j,s',c')::yi k s c r
def uv:Mem->Mem
 | []=>[]
 | (k,s,c)::r=>yi k s c (uv r)
def YT:Mem->(Mem->Prop)->Prop
 | [],K=>K []
 | (k,s,c)::r,K=>YT r λ r'=>fM (yi k s c r') K
theorem gB : ∀ (M:Mem) (K:Mem->Prop),YT M K=K (uv M)
 | [],_=>rfl
 | (k,s,c)::r,K=>by rw[YT,gB r,QT];rfl
theorem Tl (k s:Nat) (c:BF) (j:Nat) : ∀ M:Mem,b9 (yi k s c M) j=bif za j k then some (s,c) else b9 M j
 | []=>rfl
 | (i,s',c')::r=>by
  simp only[yi];cases hk:za k i
  ·simp only[cond_false,b9,Tl k s c j r]
   cases hj:za j i<;>cases hjk:za j k<;>simp only[cond_true,cond_false];exact absurd ((B1.1 hjk).symm.trans (B1.1 hj)) (GJ.1 hk)
  ·obtain rfl:=B1.1 hk
   simp only[cond_true,b9];cases za j k<;>rfl
theorem YU (j:Nat) : ∀ M:Mem,b9 (uv M) j=b9 M j
 | []=>rfl
 | (k,s,c)::r=>by simp only[uv,Tl,YU j r,b9]
theorem gG (k t:Nat):a9 (uv M) k t=a9 M k t:=by simp only[a9,YU]
def Bd (τ:List (Nat × Nat)) (M:Mem):List (Nat × Nat × BF)->List (Option (Nat × BF))
 | []=>[]
 | (k,_,_)::r=>b9 M (G3 τ k)::Bd τ M r
def Be (τ:List (Nat × Nat)):List (Nat × Nat × BF)->List (Option (Nat × BF))
 | []=>[]
 | (_,s,c)::r=>some (s,LD τ c)::Be τ r
def Lm (tm:Tm):Tm->u_
 | []=>[]
 | (j,_)::r=>tg tm j::Lm tm r
def Ln (τ:List (Nat × Nat)):Tm->u_
 | []=>[]
 | (_,v)::r=>iM τ v::Ln τ r
def gT:N'->Bool
 | []=>true
 | k::r=>bif Q3 k r then false else gT r
def keys (τ:List (Nat × Nat)):Mem->N'
 | []=>[]
 | (k,_,_)::r=>G3 τ k::keys τ r
theorem Tk : ∀ {M':Mem} {M:Mem},Bd τ M M'=Be τ M' -> ∀ k s c,b9 M' k=some (s,c)->b9 M (G3 τ k)=some (s,LD τ c)
 | [],_,_,_,_,_,e=>by cases e
 | (i,s',c')::r,M,h,k,s,c,e=>by
  simp only[Bd,Be,Ab]at h;simp only[b9]at e;cases hb:za k i<;>simp only[hb,cond_true,cond_false]at e
  ·exact Tk h.2 k s c e
  ·simp only[xa,Qa]at e
   obtain ⟨rfl,rfl⟩:=e;rw[B1.1 hb];exact h.1
theorem oU : ∀ {M:Mem} {k s:Nat} {c:BF},b9 M k=some (s,c)->Q3 (G3 τ k) (keys τ M)=true
 | (i,s',c')::r,k,s,c,e=>by
  simp only[b9]at e;simp only[keys,Q3];cases hb:za k i<;>simp only[hb,cond_true,cond_false]at e
  ·rw[oU e];cases za (G3 τ k) (G3 τ i)<;>rfl
  ·rw[B1.1 hb];simp
theorem Wc : ∀ {M:Mem},gT (keys τ M)=true -> ∀ {k k' s s':Nat} {c c':BF},b9 M k=some (s,c)->b9 M k'=some (s',c')->G3 τ k=G3 τ k'->k=k'
 | [],_,_,_,_,_,_,_,e,_,_=>by cases e
 | (i,s0,c0)::r,h,k,k',s,s',c,c',e,e',hk=>by
  simp only[keys,gT]at h;cases hm:Q3 (G3 τ i) (keys τ r)<;>simp only[hm,cond_true,cond_false]at h
  ·simp only[b9]at e e'
   cases hb:za k i<;>cases k8:za k' i<;>simp only[hb,k8,cond_true,cond_false]at e e'
   ·exact Wc h e e' hk
   ·obtain rfl:=B1.1 k8
    have:=oU (τ:=τ) e
    rw[hk,hm]at this;cases this
   ·obtain rfl:=B1.1 hb
    have:=oU (τ:=τ) e'
    rw[<-hk,hm]at this;cases this
   ·exact (B1.1 hb).trans (B1.1 k8).symm
  ·cases h
theorem Yk : ∀ {ax:Tm} {tm:Tm},Lm tm ax=Ln τ ax -> ∀ j,tg ax j = .any\/tg tm j=iM τ (tg ax j)
 | [],_,_,_=>Or.inl rfl
 | (i,v)::r,tm,h,j=>by
  simp only[Lm,Ln,Ab]at h;simp only[tg];cases hb:za j i<;>simp only[cond_true,cond_false]
  ·exact Yk h.2 j
  ·rw[B1.1 hb];exact Or.inr h.1
def v8 (ts:N') (tm:Tm):Tm:=match ts with
 | []=>tm
 | t::ts=>ym (mask 0 (t::ts)) tm
def KX (τ:List (Nat × Nat)) (tm:Tm) (M:Mem) (ax:Tm) (M':Mem):Prop :=
 fT (ym 0 ax) λ l=>YT M' λ m=>Lm tm l=Ln τ l/\Bd τ M m=Be τ m/\gT (keys τ m)=true
theorem BN {k:List It} {ax:Tm} {M':Mem} {Q:Tm->Mem->Prop} (τ:List (Nat × Nat)) (he:KX τ tm M ax M') (h:AA L k ax M' Q):AA L k tm M Q:=by
 unfold KX at he;rw[YL,gB]at he;obtain ⟨ht,hm,hn⟩:=he;intro σ st hr;have hg : ∀ k s c,b9 M' k=some (s,c)->b9 M (G3 τ k)=some (s,LD τ c):=λ k s c e=>Tk hm k s c (by rw[YU];exact e)
 have tc : ∀ k t c,a9 M' k t=some c->a9 M (G3 τ k) t=some (LD τ c):=by
  intro k t c e;obtain ⟨s,c0,g1,g2,g3⟩:=IB e;have:=hg k s c0 g1
  cases t with
  | zero=>rw[g2 rfl];exact EW this
  | succ i =>
   obtain ⟨rows,z,es,(rfl|⟨a,v,rfl⟩)|⟨w,rfl⟩,hr,rfl⟩:=g3 i rfl
   ·simp [a9,this,LD,hr]
   ·simp [a9,this,LD,hr]
   ·simp [a9,this,LD,hr]
 refine h (λ k t=>σ (G3 τ k) t) st ⟨λ j => ?_,⟨?_,?_,?_,?_,?_⟩⟩
 ·have:=Yk ht j
  rw[cE,kO,cond_false]at this;rcases this with e|e
  ·exact Or.inl e
  ·rcases hr.tm j with e'|e'
   ·left
    rw[e']at e;cases hv:tg ax j<;>rw[hv]at e<;>first|rfl|cases e
   ·right
    rw[e',e,AmV]
 ·intro k s c e;exact hr.sat.site _ _ _ (hg k s c e)
 ·intro k t c e;rw[Afi];exact hr.sat.c9 _ _ _ (tc k t c e)
 ·intro k t c e;exact hr.sat.old _ _ _ (tc k t c e)
 ·intro k t k' t' c c' e e' hk
  obtain ⟨q1,q2⟩:=hr.sat.inj _ _ _ _ _ _ (tc _ _ _ e) (tc _ _ _ e') hk;obtain ⟨s,c0,g,_⟩:=IB e;obtain ⟨s',c0',g',_⟩:=IB e';exact ⟨Wc hn (by rw[YU];exact g) (by rw[YU];exact g') q1,q2⟩
 ·intro k t c e hw
  exact hr.sat.low _ _ _ (tc k t c e) (by cases c<;>exact hw)
theorem A9 {k:List It} {ax:Tm} {M':Mem} {Q:Tm->Mem->Prop} (τ:List (Nat × Nat)) (h:AA L k ax M' Q) (he:KX τ tm M ax M':=by (conv=>whnf);exact ⟨rfl,rfl,rfl⟩):AA L k tm M Q:=BN τ he h
theorem rO {k:List It} {Q:Tm->Mem->Prop} (h:AA L k (ym 0 tm) (uv M) Q):AA L k tm M Q:=by
 intro σ st hr;refine h σ st ⟨λ j => ?_,⟨?_,?_,?_,?_,?_⟩⟩
 ·rw[cE,kO,cond_false];exact hr.tm j
 ·intro k s c e;rw[YU]at e;exact hr.sat.site _ _ _ e
 ·intro k t c e;rw[gG]at e;exact hr.sat.c9 _ _ _ e
 ·intro k t c e;rw[gG]at e;exact hr.sat.old _ _ _ e
 ·intro k t k' t' c c' e e' hk
  rw[gG]at e e';exact hr.sat.inj _ _ _ _ _ _ e e' hk
 ·intro k t c e hw;rw[gG]at e;exact hr.sat.low _ _ _ e hw
def yk (k:Nat) (c:BF):Mem->Mem
 | []=>[]
 | (j,s,c')::r=>bif za k j then (j,s,c)::r else (j,s,c')::yk k c r
theorem gE {k j s:Nat} {c c':BF} : ∀ {M:Mem},b9 (yk k c M) j=some (s,c') -> ∃ c0,b9 M j=some (s,c0)/\(c0=c'\/(j=k/\c'=c))
 | [],e=>by cases e
 | (i,s0,c0)::r,e=>by
  simp only[yk]at e;cases hk:za k i<;>simp only[hk,cond_true,cond_false,b9]at e ⊢
  ·cases hj:za j i<;>simp only[hj,cond_true,cond_false]at e ⊢
   ·exact gE e
   ·exact ⟨c',e,Or.inl rfl⟩
  ·cases hj:za j i<;>simp only[hj,cond_true,cond_false]at e ⊢
   ·exact ⟨c',e,Or.inl rfl⟩
   ·simp only[xa,Qa]at e
    obtain ⟨rfl,rfl⟩:=e;exact ⟨c0,rfl,Or.inr ⟨(B1.1 hj).trans (B1.1 hk).symm,rfl⟩⟩
theorem ZJ {kk:List It} {Q:Tm->Mem->Prop} (k s:Nat) (e:b9 M k=some (s,.rw 1 [])) (h:AA L kk tm (yk k (.mx []) M) Q):AA L kk tm M Q:=by
 intro σ st hr;have hg : ∀ j t c,a9 (yk k (.mx []) M) j t=some c -> ∃ c0,a9 M j t=some c0/\c0.c9 σ j=c.c9 σ j:=by
  intro j t c g;obtain ⟨s1,c1,g1,g2,g3⟩:=IB g;obtain ⟨c0,q1,q2⟩:=gE g1;cases t with
  | zero =>
   rw[g2 rfl];rcases q2 with rfl|⟨rfl,rfl⟩
   ·exact ⟨_,EW q1,rfl⟩
   ·rw[e]at q1
    simp only[xa,Qa]at q1;obtain ⟨rfl,rfl⟩:=q1;exact ⟨_,EW e,rfl⟩
  | succ i =>
   obtain ⟨rows,z,es,(rfl|⟨a,v,rfl⟩)|⟨w,rfl⟩,Eg,rfl⟩:=g3 i rfl
   ·rcases q2 with rfl|⟨rfl,h0⟩
    ·exact ⟨.rw z es,by simp [a9,q1,Eg],rfl⟩
    ·obtain rfl:rows=[]:=by simpa using h0
     simp at Eg
   ·rcases q2 with rfl|⟨rfl,h0⟩
    ·exact ⟨.rw z es,by simp [a9,q1,Eg],rfl⟩
    ·cases h0
   ·rcases q2 with rfl|⟨rfl,h0⟩
    ·exact ⟨.rw z es,by simp [a9,q1,Eg],rfl⟩
    ·cases h0
 refine h σ st ⟨hr.tm,⟨?_,?_,?_,?_,?_⟩⟩
 ·intro j s' c g
  obtain ⟨c0,q1,_⟩:=gE g;exact hr.sat.site _ _ _ q1
 ·intro j t c g
  obtain ⟨c0,q1,q2⟩:=hg j t c g;rw[<-q2];exact hr.sat.c9 _ _ _ q1
 ·intro j t c g
  obtain ⟨c0,q1,_⟩:=hg j t c g;exact hr.sat.old _ _ _ q1
 ·intro j t j' t' c c' g g' hj
  obtain ⟨_,q1,_⟩:=hg j t c g;obtain ⟨_,q2,_⟩:=hg j' t' c' g';exact hr.sat.inj _ _ _ _ _ _ q1 q2 hj
 ·intro j t c g hw
  cases t with
  | zero =>
   obtain ⟨s1,c1,g1,g2,g3⟩:=IB g;obtain ⟨c0,q1,q2⟩:=gE g1;have g2:=g2 rfl;subst g2;rcases q2 with rfl|⟨rfl,rfl⟩
   ·exact hr.sat.low _ _ _ (EW q1) hw
   ·exact hr.sat.low _ _ _ (EW e) rfl
  | succ t =>
   obtain ⟨c0,q1,_⟩:=hg _ _ _ g;exact hr.sat.low _ _ _ q1 (gH q1)
theorem F8 {k:List It} {c:BK} {Q:Tm->Mem->Prop} (h:AA L (.code c :: .lp c::k) tm M Q):AA L (.lp c::k) tm M Q:=λ σ st hr=>rS.2 (h σ st hr)
theorem XV {α:Type} {k:List It} {c:BK} {Q:Tm->Mem->Prop} (m:α->Nat) (P:α->Prop) (vs:α->Tm) (Ms:α->Mem) (ts:N') (τ:List (Nat × Nat)) (a:α)
  (he:KX τ tm M (vs a++v8 ts tm) (Ms a++M)) (hp:P a)
  (step : ∀ a,P a->(∀ a',m a'<m a->P a'->AA L (.lp c::k) (vs a'++v8 ts tm) (Ms a'++M) Q)->AA L (.code c :: .lp c::k) (vs a++v8 ts tm) (Ms a++M) Q):AA L (.lp c::k) tm M Q:=by
 have key : ∀ n a,m a<n->P a->AA L (.lp c::k) (vs a++v8 ts tm) (Ms a++M) Q:=by
  intro n;induction n with
  | zero=>intro a h;omega
  | succ n ih =>
   intro a ha hp;exact F8 (step a hp λ a' h1 h2=>ih a' O' h2)
 exact BN τ he (key (m a+1) a O' hp)
end
end Go.c6

namespace Go.c6
section
variable {α:Type} {enc:α->u_} {l:List α} {L:Lib}
theorem AG {p q A B:Prop} (h1:p->A) (h2:q->B):AF p q A B:=⟨h1,h2⟩
theorem AX {p A:Prop} (h1:p) (h2:A):AL p A:=⟨h1,h2⟩
section
variable {K:AV->Prop} {a b:Int} {k k':IntKind} {op:BinOp}
theorem cT {v:AV} (h:DP op k a k' b=some v) (hk:K v):AC op k a k' b K:=⟨v,h,hk⟩
theorem AP (hr : -9223372036854775808<=a+b/\a+b<=9223372036854775807) (hk:K (.int .i64 (a+b))):AC .add .i64 a .i64 b K:=⟨_,by simp only[DP,if_true];rw[IntWalk.i64_in _ hr],hk⟩
theorem BS (hr : -9223372036854775808<=a-b/\a-b<=9223372036854775807) (hk:K (.int .i64 (a-b))):AC .sub .i64 a .i64 b K:=⟨_,by simp only[DP,if_true];rw[IntWalk.i64_in _ hr],hk⟩
theorem FL (hr : -9223372036854775808<=a*b/\a*b<=9223372036854775807) (hk:K (.int .i64 (a*b))):AC .mul .i64 a .i64 b K:=⟨_,by simp only[DP,if_true];rw[IntWalk.i64_in _ hr],hk⟩
theorem F3 (h:0<=b/\b<=62) (hk:1<=pw b->pw b<=4611686018427387904->K (.int .i64 (pw b))):AC .shl .i64 1 k' b K:=⟨_,AmB h,hk (HF b) (pQ h.2)⟩
theorem N2 (hb:0<b) (h1:(0<=a\/a%b=0)->0<=a%b->a%b<b->K (.int .i64 (a%b))) (h2:a<0->a%b≠0->0<=a%b->a%b<b->K (.int .i64 (a%b-b))):AC .rem .i64 a .i64 b K:=by
 have h5:0<=a%b:=zc _ O';have h6:a%b<b:=Hb _ hb;have e:DP .rem .i64 a .i64 b=some (.int .i64 (a.tmod b)):=by simp only[DP];rw[if_pos ⟨trivial,O'⟩]
 by_cases hc:0<=a\/a%b=0
 ·rw[Yl hb,if_pos hc]at e
  exact ⟨_,e,h1 hc h5 h6⟩
 ·rw[Yl hb,if_neg hc]at e
  exact ⟨_,e,h2 O' O' h5 h6⟩
theorem IZ (hb:0<b) (ha : -9223372036854775808<=a/\a<=9223372036854775807) (h1:(0<=a\/a%b=0)->K (.int .i64 (a/b))) (h2:a<0->a%b≠0->K (.int .i64 (a/b+1))):AC .quo .i64 a .i64 b K:=by
 have hr:=Ag8 (m:=b) O' ha;have e:DP .quo .i64 a .i64 b=some (.int .i64 (IntKind.i64.wrap (a.tdiv b))):=by simp only[DP];rw[if_pos ⟨trivial,O'⟩]
 by_cases hc:0<=a\/a%b=0
 ·rw[Yi hb,if_pos hc,IntWalk.i64_in _ hr]at e
  exact ⟨_,e,h1 hc⟩
 ·have AAM:a/b<0:=Int.ediv_neg_of_neg_of_pos O' hb
  rw[Yi hb,if_neg hc,IntWalk.i64_in _ O']at e;exact ⟨_,e,h2 O' O'⟩
theorem Aeh (h:0<=b/\b<=63) (hk:K (.int .i64 (a/pw b))):AC .shr .i64 a k' b K:=⟨_,AmC h,hk⟩
theorem sL (hk:K (.int k (k.wrap (a+b)))):AC .add k a k b K:=⟨_,by simp only[DP,if_true],hk⟩
theorem cZ (hk:K (.int k (k.wrap (a-b)))):AC .sub k a k b K:=⟨_,by simp only[DP,if_true],hk⟩
theorem CQ.neg (hr : -9223372036854775808 <= -a /\ -a<=9223372036854775807) (hk:K (.int .i64 (-a))):CQ .neg .i64 a K:=⟨_,by simp only[VM];rw[show (0:Int)-a = -a by omega,IntWalk.i64_in _ hr],hk⟩
theorem CQ.go {op:UnOp} {v:AV} (h:VM op (.int k a)=some v) (hk:K v):CQ op k a K:=⟨v,h,hk⟩
end
theorem ZL {k:IntKind} {n:Int} {K:Int->Prop} (e:k.wrap n=n) (h:K n):A5 k n K:=⟨by rw[e];exact h⟩
theorem CD {n:Int} {K:Int->Prop} (hr:0<=n/\n<=18446744073709551615) (h:K n):A5 .u64 n K:=ZL (IntWalk.u64_in _ hr) h
theorem VS {n:Int} {K:Int->Prop} (hr : -9223372036854775808<=n/\n<=9223372036854775807) (h:K n):A5 .i64 n K:=ZL (IntWalk.i64_in _ hr) h
theorem A4 {a:Int} {z:Nat} {K:u_->Prop} {e:α} (he:l[a.toNat]? = some e) (h0:0<=a) (hz:(enc e).length=z) (h:K (enc e)):AW (l.map enc) a z K:=⟨h0,enc e,by simp [he],hz,h⟩
theorem kC {a:Int} {z:Nat} {K:u_->Prop} (h0:0<=a/\a<l.length) (hz : ∀ e,(enc e).length=z) (h : ∀ e,l[a.toNat]? = some e->K (enc e)):AW (l.map enc) a z K:=by
 have he:l[a.toNat]? = some (l[a.toNat]' O'):=zE _;exact A4 he h0.1 (hz _) (h _ he)
theorem LP {n z:Nat} {K:u_->Prop} (hn:n<l.length) (hz : ∀ e,(enc e).length=z) (h : ∀ e,l[n]? = some e->K (enc e)):AW (l.map enc) (n:Int) z K :=
 kC ⟨O',O'⟩ hz h
theorem GR {i j n:Nat} {K:u_->Prop} {f:α->u_} (hi:i<l.length) (hp : ∀ e,part (enc e) j n=some (f e)) (h : ∀ e,l[i]? = some e->K (f e)):BA (l.map enc) (0+((i:Int)).toNat) j n K:=by
 have he:l[i]? = some l[i]:=zE _;rw[Oa,vb];exact ⟨enc l[i],f l[i],by simp [he],hp _,h _ he⟩
theorem LO {i:Int} {j n:Nat} {K:u_->Prop} {f:α->u_} (hi:0<=i/\i<l.length) (hp : ∀ e,part (enc e) j n=some (f e)) (h : ∀ e,l[i.toNat]? = some e->K (f e)):BA (l.map enc) (0+i.toNat) j n K:=by
 have hl:i.toNat<l.length:=O'
 have he:l[i.toNat]? = some l[i.toNat]:=zE _;rw[Oa];exact ⟨enc l[i.toNat],f l[i.toNat],by rw[Ma,he];rfl,hp _,h _ he⟩
theorem E5 {i:Nat} {vs:u_} {K:o_->Prop} (e:α) (he:vs=enc e) (hz : ∀ x,(enc x).length=vs.length) (hi:i<l.length) (h:K ((l.set i e).map enc)):A8 (l.map enc) (0+((i:Int)).toNat) 0 vs K:=by
 rw[Oa,vb];refine ⟨enc l[i],by simp [zE hi],by rw[hz];omega,?_⟩;rw[show splice (enc l[i]) 0 vs=vs by simp [splice,<-hz l[i]],he,<-kc];exact h
theorem XZ {i j n:Nat} {K:u_->Prop} {e:α} {ds:u_} (he:l[i]? = some e) (hp:part (enc e) j n=some ds) (h:K ds):BA (l.map enc) i j n K:=⟨enc e,ds,by simp [he],hp,h⟩
theorem AmT {cs vs:u_} (h:cs.length=vs.length):splice cs 0 vs=vs:=by
 simp [splice,<-h]
theorem Aeq {i:Nat} {vs:u_} {K:o_->Prop} (e:α) (he:vs=enc e) (hz : ∀ x,(enc x).length=vs.length) (hi:i<l.length) (h:K ((l.set i e).map enc)):A8 (l.map enc) i 0 vs K:=by
 refine ⟨enc l[i],by simp [zE hi],by rw[hz];omega,?_⟩;rw[AmT (hz _),he,<-kc];exact h
theorem DW {a b:Int} {bytes:Nat} {zero:u_} {K:o_->Nat->Prop} (x:α) (n:Nat) (hx:zero=enc x) (hn:a=n) (hr:a<=b/\b*bytes<=140737488355328/\b<=9223372036854775807) (h:K ((Fa n x).map enc) n):B3 a b bytes zero K:=by
 subst hn hx;refine ⟨⟨O',hr.1,by simpa [DX] using hr.2.1,hr.2.2⟩,?_⟩;simpa using h
theorem AR {K:Nat->Prop} (h:K l.length):AQ (l.map enc) K:=⟨by simpa using h⟩
theorem EE {len z bytes:Nat} {vs:u_} {K:o_->Nat->Prop} (e:α) (he:vs=enc e) (hl:len=l.length) (hz:vs.length=z) (hr:(l.length+1)*bytes<=140737488355328) (au:l.length+1<=9223372036854775807) (h:K ((l++[e]).map enc) (l++[e]).length):BL (l.map enc) len [vs] z bytes K:=by
 subst hl;refine ⟨Z',by simpa using hz,by simpa [DX] using hr,by simpa using au,?_⟩;rw[zT Z'];simpa [he] using h
theorem ZK {len z bytes:Nat} {l':List α} {K:o_->Nat->Prop} (hl:len=l.length) (hz : ∀ x,(enc x).length=z) (hr:(l.length+l'.length)*bytes<=140737488355328) (au:l.length+l'.length<=9223372036854775807) (h:K ((l++l').map enc) (l++l').length):BL (l.map enc) len (l'.map enc) z bytes K:=by
 subst hl;refine ⟨Z',by simp [hz],by simpa [DX] using hr,by simpa using au,?_⟩;rw[zT Z'];simpa using h
theorem RR {z bytes:Nat} {vs:u_} {K:o_->Nat->Prop} (e:α) (he:vs=enc e) (hz:vs.length=z) (hb:bytes<=140737488355328) (h:K ([e].map enc) 1):CN [vs] z bytes K :=
 ⟨by simpa using hz,by simpa [DX] using hb,Z',by simpa [he] using h⟩
theorem RQ {z bytes:Nat} {K:o_->Nat->Prop} (hz : ∀ x,(enc x).length=z) (hr:l.length*bytes<=140737488355328) (au:l.length<=9223372036854775807) (h:K (l.map enc) l.length):CN (l.map enc) z bytes K :=
 ⟨by simp [hz],by simpa [DX] using hr,by simpa using au,by simpa using h⟩
theorem dC {off len:Nat} {K:o_->Prop} (hl:off+len<=l.length) (h:K (((l.drop off).take len).map enc)):BP (l.map enc) off len K :=
 ⟨by simpa using hl,by rw[<-Pb,<-Rb];exact h⟩
theorem aW : ∀ {e:u_},GE e=true->NI e=true/\e.map nl=e
 | [],_=>⟨rfl,rfl⟩
 | v::r,h=>by
  have hv:GE r=true:=by cases v<;>simp only[GE]at h<;>first|cases h|exact h
  obtain ⟨h1,h2⟩:=aW hv;cases v<;>simp only[GE]at h<;>first|cases h|exact ⟨h1,by rw[ya,h2];rfl⟩
theorem Wk : ∀ {es:o_},(∀ e∈es,GE e=true)->es.map (λ e=>e.map nl)=es
 | [],_=>rfl
 | e::r,h=>by rw[ya,(aW (h e fb)).2,Wk λ x hx=>h x (ob _ hx)]
theorem ZU {es:o_} {off len:Nat} {K:o_->Prop} (hl:off+len<=es.length) (hz : ∀ e∈es,GE e=true) (h:K ((es.drop off).take len)):A1 es off len K :=
 ⟨hl,λ e he=>(aW (hz e he)).1,by rw[Wk λ e he=>hz e (ec (fc he))];exact h⟩
theorem C8 {off len:Nat} {K:o_->Prop} (hz : ∀ x,GE (enc x)=true) (ho:off=0) (hl:len=l.length) (h:K (l.map enc)):A1 (l.map enc) off len K:=by
 subst hl ho;refine ZU Z' (λ e he => ?_) (by rw[Kb,zT Z'];exact h);obtain ⟨x,_,rfl⟩:=Nb.1 he;exact hz x
theorem I2 {off len:Nat} {K:o_->Prop} (hz : ∀ x,GE (enc x)=true) (hl:off+len<=l.length) (h:K (((l.drop off).take len).map enc)):A1 (l.map enc) off len K:=by
 refine ZU (by simpa using hl) (λ e he => ?_) (by rw[<-Pb,<-Rb];exact h);obtain ⟨x,_,rfl⟩:=Nb.1 he;exact hz x
theorem DG {e:u_} {K:o_->Prop} (h:K [e]):BP [e] 0 1 K:=⟨Z',h⟩
theorem Aep {K:o_->Prop} (h:K []):A1 [] 0 0 K:=⟨Z',Z',h⟩
theorem GS {e:u_} {K:o_->Prop} (h0:GE e=true) (h:K [e]):A1 [e] 0 1 K:=ZU Z' (by simpa using h0) h
theorem JJ {e e':u_} {K:o_->Prop} (h0:GE e=true) (h1:GE e'=true) (h:K [e,e']):A1 [e,e'] 0 2 K:=ZU Z' (by simpa using ⟨h0,h1⟩) h
theorem sR {e':u_} {K:o_->Prop} (h1:GE e'=true) (h:K [[.sl false []],e']):A1 [[.nil],e'] 0 2 K :=
 ⟨Z',by simpa using ⟨rfl,(aW h1).1⟩,by simpa [(aW h1).2,nl] using h⟩
section
variable {β:Type} {z:Nat} {ll:List (List β)} {en:β->u_}
abbrev BJ (z:Nat) (en:β->u_) (ll:List (List β)):List (P'):=ll.map λ r=>some (z,r.map en)
theorem GG {i:Nat} {K:P'->Prop} (hi:i<ll.length) (h : ∀ r,ll[i]? = some r->K (some (z,r.map en))):BV (BJ z en ll) (0+((i:Int)).toNat) K:=by
 have he:ll[i]? = some ll[i]:=zE _;exact ⟨_,by rw[Oa,vb,Ma,he];rfl,h _ he⟩
theorem Ad9 {i:Int} {K:P'->Prop} (hi:0<=i/\i<ll.length) (h : ∀ r,ll[i.toNat]? = some r->K (some (z,r.map en))):BV (BJ z en ll) (0+i.toNat) K:=by
 have hl:i.toNat<ll.length:=O'
 have he:ll[i.toNat]? = some ll[i.toNat]:=zE _;exact ⟨_,by rw[Oa,Ma,he];rfl,h _ he⟩
theorem sD {i:Nat} {K:Nat->o_->Prop} {r:List β} (hr:ll[i]? = some r) (h:K z (r.map en)):BO (BJ z en ll) i K :=
 ⟨z,r.map en,by rw[Ma,hr];rfl,h⟩
theorem GX {i:Nat} {K:Nat->o_->Prop} {r:List β} (hr:ll[i]? = some r) (h:K z (r.map en)):BO (BJ z en ll) (0+((i:Int)).toNat) K:=by
 rw[Oa,vb];exact sD hr h
theorem Ad6 {i:Int} {K:Nat->o_->Prop} {r:List β} (hr:ll[i.toNat]? = some r) (h:K z (r.map en)):BO (BJ z en ll) (0+i.toNat) K:=by
 rw[Oa];exact sD hr h
theorem ZQ {i:Nat} {r r':List β} {K:List (P')->Prop} (hl:r'.length=r.length) (h:K (BJ z en (ll.set i r'))):CY (BJ z en ll) (0+((i:Int)).toNat) z (r.map en) (r'.map en) K:=by
 rw[Oa,vb];exact ⟨by simpa using hl,by simpa [BJ,kc] using h⟩
theorem RP {len bytes:Nat} {r:List β} {K:List (P')->Nat->Prop} (hl:len=ll.length) (hr:(ll.length+1)*bytes<=140737488355328) (au:ll.length+1<=9223372036854775807) (h:K (BJ z en (ll++[r])) (ll++[r]).length):BX (BJ z en ll) len (some (z,r.map en)) bytes K:=by
 subst hl;exact ⟨Z',by simpa [DX] using hr,au,by simpa [BJ] using h⟩
theorem Vz (q:Bool) : ∀ ll:List (List β),VC q (BJ z en ll)=ll.map λ r=>[AV.sl q (r.map en)]
 | []=>rfl
 | r::l=>by simp only[BJ,ya,VC];rw[show VC q (l.map λ r=>some (z,r.map en))=_ from Vz q l]
theorem H1 {q:Bool} {off len:Nat} {K:o_->Prop} (hz : ∀ x,GE (en x)=true) (ho:off=0) (hl:len=ll.length) (h:K (ll.map λ r=>[AV.sl q (r.map en)])):CG q (BJ z en ll) off len K:=by
 refine ⟨ho,by simpa using hl,λ z' es hm e he => ?_,by rw[Vz];exact h⟩;obtain ⟨r,_,hr⟩:=Nb.1 hm;simp only[xa,Qa]at hr;obtain ⟨rfl,rfl⟩:=hr;obtain ⟨x,_,rfl⟩:=Nb.1 he;exact hz x
end
theorem AdY {len:Nat} {a:Int} {K:Nat->Nat->Prop} (h0:0<=a/\a<=len) (h:K a.toNat len):B6 (some a) none len K:=⟨a.toNat,len,⟨h0.1,rfl⟩,rfl,O',h⟩
theorem rV {len:Nat} {b:Int} {K:Nat->Nat->Prop} (h0:0<=b/\b<=len) (h:K 0 b.toNat):B6 none (some b) len K:=⟨0,b.toNat,rfl,⟨h0.1,h0.2,rfl⟩,O',h⟩
theorem jT {len:Nat} {a b:Int} {K:Nat->Nat->Prop} (h0:0<=a/\a<=b/\b<=len) (h:K a.toNat b.toNat):B6 (some a) (some b) len K:=⟨a.toNat,b.toNat,⟨h0.1,rfl⟩,⟨O',O',rfl⟩,O',h⟩
theorem dD {z:Nat} {lo hi:Option Int} {K:o_->Prop} (hz : ∀ x,(enc x).length=z) (h:B6 lo hi l.length λ a h=>K (((l.take h).drop a).map enc)):CF z (l.map enc) lo hi K:=by
 refine ⟨by simp [hz],?_⟩;rw[ga];obtain ⟨a,b,h1,h2,h3,h4⟩:=h;refine ⟨a,b,h1,h2,h3,?_⟩;show K _;rw[<-Rb,<-Pb];exact h4
theorem M5 {z k:Nat} {K:o_->Prop} (hz : ∀ x,(enc x).length=z) (hk:k<=l.length) (h:K ((l.take k).map enc)):CF z (l.map enc) none (some (k:Int)) K :=
 dD hz (rV O' (by simpa using h))
theorem sP {z k:Nat} {K:o_->Prop} (hz : ∀ x,(enc x).length=z) (hk:k<=l.length) (h:K ((l.drop k).map enc)):CF z (l.map enc) (some (k:Int)) none K :=
 dD hz (AdY O' (by simpa using h))
theorem AD {f:Nat} {vs:u_} {K:AV->Prop} {r:AV} (h:Ev L f vs r) (hk:K r):AB L f vs K:=⟨r,h,hk⟩
theorem FE {f:Nat} {vs:u_} {K:AV->Prop} {p:Prop} [Decidable p] (h:Ev L f vs (.bool (decide p))) (h1:p->K (.bool true)) (h2 : ¬ p->K (.bool false)):AB L f vs K:=by
 refine ⟨_,h,?_⟩;by_cases e:p
 ·rw[decide_eq_true e];exact h1 e
 ·rw[decide_eq_false e];exact h2 e
theorem AY {a r:AV} (h:a=r) (hc:A3 r):AH a r:=⟨h,hc⟩
theorem FB {a r:Bool} (h:a=r):AH (.bool a) (.bool r):=⟨by rw[h],by simp [A3]⟩
theorem VV {p:Prop} [Decidable p] (h:p):AH (.bool true) (.bool (decide p)):=⟨by simp [h],by simp [A3]⟩
theorem RT {p:Prop} [Decidable p] (h : ¬ p):AH (.bool false) (.bool (decide p)):=⟨by simp [h],by simp [A3]⟩
theorem CJ {k:IntKind} {a b:Int} (h:a=b):AH (.int k a) (.int k b):=⟨by rw[h],by simp [A3]⟩
theorem QK (h : ∀ x,B7 (enc x)) : ∀ l:List α,EZ (l.map enc)
 | []=>by simp [EZ]
 | x::r=>by rw[ya,EZ];exact ⟨h x,QK h r⟩
end
theorem uC (l:List Int):EZ (l.map C0):=QK (λ_=>by simp [B7,A3]) l
theorem DF {α:Type} {L:Lib} {k:List It} {cd:BK} {tm:Tm} {M:Mem} {Q:Tm->Mem->Prop} (m:α->Nat) (P:α->Prop) (vs:α->Tm) (Ms:α->Mem) (ts:N') (τ:List (Nat × Nat)) (a:α)
  (he:KX τ tm M (vs a++v8 ts tm) (Ms a++M)) (hp:P a)
  (step : ∀ a,P a->(∀ a',m a'<m a->P a'->AA L (.lp cd::k) (vs a'++v8 ts tm) (Ms a'++M) Q)->AA L (.code cd :: .lp cd::k) (vs a++v8 ts tm) (Ms a++M) Q):AA L (.lp cd::k) tm M Q :=
 XV (α:=α) (λ x=>m x) (λ x=>P x) (λ x=>vs x) (λ x=>Ms x) ts τ a he hp λ a h ih=>step a h λ a' h1 h2=>ih a' h1 h2
theorem ZI {α β:Type} {L:Lib} {k:List It} {cd:BK} {tm:Tm} {M:Mem} {Q:Tm->Mem->Prop} (m:α->β->Nat) (P:α->β->Prop) (vs:α->β->Tm) (Ms:α->β->Mem) (ts:N') (τ:List (Nat × Nat)) (a:α) (b:β)
  (he:KX τ tm M (vs a b++v8 ts tm) (Ms a b++M)) (hp:P a b)
  (step : ∀ a b,P a b->(∀ a' b',m a' b'<m a b->P a' b'->AA L (.lp cd::k) (vs a' b'++v8 ts tm) (Ms a' b'++M) Q)->AA L (.code cd :: .lp cd::k) (vs a b++v8 ts tm) (Ms a b++M) Q):AA L (.lp cd::k) tm M Q :=
 XV (α:=α × β) (λ x=>m x.1 x.2) (λ x=>P x.1 x.2) (λ x=>vs x.1 x.2) (λ x=>Ms x.1 x.2) ts τ (a,b) he hp λ⟨a,b⟩ h ih=>step a b h λ a' b' h1 h2=>ih (a',b') h1 h2
theorem Ads {α β γ:Type} {L:Lib} {k:List It} {cd:BK} {tm:Tm} {M:Mem} {Q:Tm->Mem->Prop} (m:α->β->γ->Nat) (P:α->β->γ->Prop) (vs:α->β->γ->Tm) (Ms:α->β->γ->Mem) (ts:N') (τ:List (Nat × Nat)) (a:α) (b:β) (c:γ)
  (he:KX τ tm M (vs a b c++v8 ts tm) (Ms a b c++M)) (hp:P a b c)
  (step : ∀ a b c,P a b c->(∀ a' b' c',m a' b' c'<m a b c->P a' b' c'->AA L (.lp cd::k) (vs a' b' c'++v8 ts tm) (Ms a' b' c'++M) Q)->AA L (.code cd :: .lp cd::k) (vs a b c++v8 ts tm) (Ms a b c++M) Q):AA L (.lp cd::k) tm M Q :=
 XV (α:=α × β × γ) (λ x=>m x.1 x.2.1 x.2.2) (λ x=>P x.1 x.2.1 x.2.2) (λ x=>vs x.1 x.2.1 x.2.2) (λ x=>Ms x.1 x.2.1 x.2.2) ts τ (a,b,c) he hp λ⟨a,b,c⟩ h ih=>step a b c h λ a' b' c' h1 h2=>ih (a',b',c') h1 h2
theorem cK {α β γ δ:Type} {L:Lib} {k:List It} {cd:BK} {tm:Tm} {M:Mem} {Q:Tm->Mem->Prop} (m:α->β->γ->δ->Nat) (P:α->β->γ->δ->Prop) (vs:α->β->γ->δ->Tm) (Ms:α->β->γ->δ->Mem) (ts:N') (τ:List (Nat × Nat)) (a:α) (b:β) (c:γ) (d:δ)
  (he:KX τ tm M (vs a b c d++v8 ts tm) (Ms a b c d++M)) (hp:P a b c d)
  (step : ∀ a b c d,P a b c d->(∀ a' b' c' d',m a' b' c' d'<m a b c d->P a' b' c' d'->AA L (.lp cd::k) (vs a' b' c' d'++v8 ts tm) (Ms a' b' c' d'++M) Q)->AA L (.code cd :: .lp cd::k) (vs a b c d++v8 ts tm) (Ms a b c d++M) Q):AA L (.lp cd::k) tm M Q :=
 XV (α:=α × β × γ × δ) (λ x=>m x.1 x.2.1 x.2.2.1 x.2.2.2) (λ x=>P x.1 x.2.1 x.2.2.1 x.2.2.2) (λ x=>vs x.1 x.2.1 x.2.2.1 x.2.2.2) (λ x=>Ms x.1 x.2.1 x.2.2.1 x.2.2.2) ts τ (a,b,c,d) he hp λ⟨a,b,c,d⟩ h ih=>step a b c d h λ a' b' c' d' h1 h2=>ih (a',b',c',d') h1 h2
theorem Adt {α β γ δ ε:Type} {L:Lib} {k:List It} {cd:BK} {tm:Tm} {M:Mem} {Q:Tm->Mem->Prop} (m:α->β->γ->δ->ε->Nat) (P:α->β->γ->δ->ε->Prop) (vs:α->β->γ->δ->ε->Tm) (Ms:α->β->γ->δ->ε->Mem) (ts:N') (τ:List (Nat × Nat)) (a:α) (b:β) (c:γ) (d:δ) (e:ε)
  (he:KX τ tm M (vs a b c d e++v8 ts tm) (Ms a b c d e++M)) (hp:P a b c d e)
  (step : ∀ a b c d e,P a b c d e->(∀ a' b' c' d' e',m a' b' c' d' e'<m a b c d e->P a' b' c' d' e'->AA L (.lp cd::k) (vs a' b' c' d' e'++v8 ts tm) (Ms a' b' c' d' e'++M) Q)->AA L (.code cd :: .lp cd::k) (vs a b c d e++v8 ts tm) (Ms a b c d e++M) Q):AA L (.lp cd::k) tm M Q :=
 XV (α:=α × β × γ × δ × ε) (λ x=>m x.1 x.2.1 x.2.2.1 x.2.2.2.1 x.2.2.2.2) (λ x=>P x.1 x.2.1 x.2.2.1 x.2.2.2.1 x.2.2.2.2) (λ x=>vs x.1 x.2.1 x.2.2.1 x.2.2.2.1 x.2.2.2.2) (λ x=>Ms x.1 x.2.1 x.2.2.1 x.2.2.2.1 x.2.2.2.2) ts τ (a,b,c,d,e) he hp λ⟨a,b,c,d,e⟩ h ih=>step a b c d e h λ a' b' c' d' e' h1 h2=>ih (a',b',c',d',e') h1 h2
theorem Adu {α β γ δ ε ζ:Type} {L:Lib} {k:List It} {cd:BK} {tm:Tm} {M:Mem} {Q:Tm->Mem->Prop} (m:α->β->γ->δ->ε->ζ->Nat) (P:α->β->γ->δ->ε->ζ->Prop) (vs:α->β->γ->δ->ε->ζ->Tm) (Ms:α->β->γ->δ->ε->ζ->Mem) (ts:N') (τ:List (Nat × Nat)) (a:α) (b:β) (c:γ) (d:δ) (e:ε) (f:ζ)
  (he:KX τ tm M (vs a b c d e f++v8 ts tm) (Ms a b c d e f++M)) (hp:P a b c d e f)
  (step : ∀ a b c d e f,P a b c d e f->(∀ a' b' c' d' e' f',m a' b' c' d' e' f'<m a b c d e f->P a' b' c' d' e' f'->AA L (.lp cd::k) (vs a' b' c' d' e' f'++v8 ts tm) (Ms a' b' c' d' e' f'++M) Q)->AA L (.code cd :: .lp cd::k) (vs a b c d e f++v8 ts tm) (Ms a b c d e f++M) Q):AA L (.lp cd::k) tm M Q :=
 XV (α:=α × β × γ × δ × ε × ζ) (λ x=>m x.1 x.2.1 x.2.2.1 x.2.2.2.1 x.2.2.2.2.1 x.2.2.2.2.2) (λ x=>P x.1 x.2.1 x.2.2.1 x.2.2.2.1 x.2.2.2.2.1 x.2.2.2.2.2) (λ x=>vs x.1 x.2.1 x.2.2.1 x.2.2.2.1 x.2.2.2.2.1 x.2.2.2.2.2) (λ x=>Ms x.1 x.2.1 x.2.2.1 x.2.2.2.1 x.2.2.2.2.1 x.2.2.2.2.2) ts τ (a,b,c,d,e,f) he hp λ⟨a,b,c,d,e,f⟩ h ih=>step a b c d e f h λ a' b' c' d' e' f' h1 h2=>ih (a',b',c',d',e',f') h1 h2
theorem CE {α:Type} {L:Lib} {k:List It} {cd:BK} {tm:Tm} {M:Mem} {Q:Tm->Mem->Prop} (m:α->Nat) (P:α->Prop) (vs:α->Tm) (Ms:α->Mem) (a:α)
  (hp:P a)
  (step : ∀ a,P a->(∀ a',m a'<m a->P a'->AA L (.lp cd::k) (vs a'++v8 [] tm) (Ms a'++M) Q)->AA L (.code cd :: .lp cd::k) (vs a++v8 [] tm) (Ms a++M) Q)
  (he:KX [] tm M (vs a++v8 [] tm) (Ms a++M):=by (conv=>whnf);exact ⟨rfl,rfl,rfl⟩):AA L (.lp cd::k) tm M Q :=
 DF m P vs Ms [] [] a he hp step
theorem FJ {α β:Type} {L:Lib} {k:List It} {cd:BK} {tm:Tm} {M:Mem} {Q:Tm->Mem->Prop} (m:α->β->Nat) (P:α->β->Prop) (vs:α->β->Tm) (Ms:α->β->Mem) (a:α) (b:β)
  (hp:P a b)
  (step : ∀ a b,P a b->(∀ a' b',m a' b'<m a b->P a' b'->AA L (.lp cd::k) (vs a' b'++v8 [] tm) (Ms a' b'++M) Q)->AA L (.code cd :: .lp cd::k) (vs a b++v8 [] tm) (Ms a b++M) Q)
  (he:KX [] tm M (vs a b++v8 [] tm) (Ms a b++M):=by (conv=>whnf);exact ⟨rfl,rfl,rfl⟩):AA L (.lp cd::k) tm M Q :=
 ZI m P vs Ms [] [] a b he hp step
theorem HK {α β γ:Type} {L:Lib} {k:List It} {cd:BK} {tm:Tm} {M:Mem} {Q:Tm->Mem->Prop} (m:α->β->γ->Nat) (P:α->β->γ->Prop) (vs:α->β->γ->Tm) (Ms:α->β->γ->Mem) (a:α) (b:β) (c:γ)
  (hp:P a b c)
  (step : ∀ a b c,P a b c->(∀ a' b' c',m a' b' c'<m a b c->P a' b' c'->AA L (.lp cd::k) (vs a' b' c'++v8 [] tm) (Ms a' b' c'++M) Q)->AA L (.code cd :: .lp cd::k) (vs a b c++v8 [] tm) (Ms a b c++M) Q)
  (he:KX [] tm M (vs a b c++v8 [] tm) (Ms a b c++M):=by (conv=>whnf);exact ⟨rfl,rfl,rfl⟩):AA L (.lp cd::k) tm M Q :=
 Ads m P vs Ms [] [] a b c he hp step
theorem AE {L:Lib} {Q:Tm->Mem->Prop} {c:BK} {k:List It} {tm:Tm} {M:Mem} (h:fT (ym 0 tm) λ tm=>YT M λ M=>XK L Q 500 (.code c::k) tm M):AA L (.code c::k) tm M Q:=by
 rw[YL,gB]at h;exact rO (kE h)
end Go.c6

namespace Go.c6
open F
attribute [local irreducible] AA AF AL AC CQ AW BA A8 B3 BL CN D4 BP A1 B6 CF AB BG AH pw BV BO CS CY C2 BX CG BU CX
variable {L:Lib}
def EB (n:Int):Prop := -9223372036854775808<=n/\n<=9223372036854775807
structure Wd where
 b:Int
 f:Int
 r:Int
 o:Int
abbrev GY (w:Wd):u_:=[.int .i64 w.b,.int .i64 w.f,.int .i64 w.r,.int .i64 w.o]
theorem AhN (I:e8 L) (r:Int):Ev L 1 [.int .i64 r] (.bool (decide (1<=r/\r<=3))):=by
 refine Ev.x I.SX rfl rfl ?_;repeat' (first|(apply AG<;>intro hc<;>try omega)|apply AE)<;>conv=>whnf
 all_goals (first|exact VV O'|exact RT O')
theorem WJ (I:e8 L) (v a b:Int):Ev L 10 [.int .i64 v,.int .i64 a,.int .i64 b] (.bool (decide (a<=v/\v<=b))):=by
 refine Ev.x I.U1 rfl rfl ?_;repeat' (first|(apply AG<;>intro hc<;>try omega)|apply AE)<;>conv=>whnf
 all_goals (first|exact VV O'|exact RT O')
def WV (w:Wd):Prop:=4<=w.b/\w.b<=24/\0<=w.f/\w.f<w.b/\1<=w.r/\w.r<=3/\1<=w.o/\w.o<=2
instance (w : Wd) : Decidable (WV w) := by unfold WV; infer_instance
variable (w:Wd)
theorem QP (I:e8 L):Ev L 2 [.agg (GY w)] (.bool (decide (WV w))):=by
 refine Ev.x I.SW rfl rfl ?_;repeat' (first|(apply AG<;>intro hc<;>try omega)|apply AE|refine FE (AhN I _) (λ hf => ?_) (λ hf => ?_))<;>conv=>whnf
 all_goals (unfold WV;first|exact VV O'|exact RT O')
theorem eT (I:e8 L):Ev L 11 [.agg (GY w)] (.bool (decide (WV w))):=by
 refine Ev.x I.U3 rfl rfl ?_;repeat' (first|(apply BS;omega)|apply AE|refine FE (WJ I _ _ _) (λ hf => ?_) (λ hf => ?_))<;>conv=>whnf
 all_goals (unfold WV;first|exact VV O'|exact RT O')
def Q0:Int:=if WV w then -pw (w.b-1) else 0
def QX:Int:=if WV w then pw (w.b-1)-1 else 0
theorem AhM (I:e8 L):Ev L 3 [.agg (GY w)] (.int .i64 (Q0 w)):=by
 refine Ev.x I.SV rfl rfl ?_;by_cases hv:WV w;all_goals (
  have ij:=hv;unfold WV at ij;repeat' (first|(apply BS;omega)|(refine F3 ?_ (λ_ _ => ?_);omega)|apply cZ|(apply CQ.neg;omega)|apply AE|refine FE (QP _ I) (λ hf => ?_) (λ hf => ?_))<;>conv=>whnf
  all_goals (first|contradiction|exact CJ (by rw[Q0,if_pos hv])|exact CJ (by rw[Q0,if_neg hv])))
theorem AhL (I:e8 L):Ev L 4 [.agg (GY w)] (.int .i64 (QX w)):=by
 refine Ev.x I.SU rfl rfl ?_;by_cases hv:WV w;all_goals (
  have ij:=hv;unfold WV at ij;repeat' (first|(apply BS;omega)|(refine F3 ?_ (λ_ _ => ?_);omega)|apply cZ|apply AE|refine FE (QP _ I) (λ hf => ?_) (λ hf => ?_))<;>conv=>whnf
  all_goals (first|contradiction|exact CJ (by rw[QX,if_pos hv])|exact CJ (by rw[QX,if_neg hv])))
theorem AiJ (I:e8 L):Ev L 12 [.agg (GY w)] (.int .i64 (Q0 w)):=by
 refine Ev.x I.U2 rfl rfl ?_;by_cases hv:WV w;all_goals (
  have ij:=hv;unfold WV at ij;repeat' (first|(apply BS;omega)|(refine F3 ?_ (λ_ _ => ?_);omega)|apply cZ|(apply CQ.neg;omega)|(apply CD;omega)|apply AE|refine FE (eT _ I) (λ hf => ?_) (λ hf => ?_))<;>conv=>whnf
  all_goals (first|contradiction|exact CJ (by rw[Q0,if_pos hv])|exact CJ (by rw[Q0,if_neg hv])))
theorem AiI (I:e8 L):Ev L 13 [.agg (GY w)] (.int .i64 (QX w)):=by
 refine Ev.x I.U0 rfl rfl ?_;by_cases hv:WV w;all_goals (
  have ij:=hv;unfold WV at ij;repeat' (first|(apply BS;omega)|(refine F3 ?_ (λ_ _ => ?_);omega)|apply cZ|(apply CD;omega)|apply AE|refine FE (eT _ I) (λ hf => ?_) (λ hf => ?_))<;>conv=>whnf
  all_goals (first|contradiction|exact CJ (by rw[QX,if_pos hv])|exact CJ (by rw[QX,if_neg hv])))
def FT (v:Int):Prop:=WV w/\Q0 w<=v/\v<=QX w
instance (v : Int) : Decidable (FT w v) := by unfold FT; infer_instance
theorem WH (I:e8 L) (v:Int):Ev L 5 [.agg (GY w),.int .i64 v] (.bool (decide (FT w v))):=by
 refine Ev.x I.ST rfl rfl ?_;repeat' (first|(apply AG<;>intro hc<;>try omega)|apply AE|refine FE (QP _ I) (λ hf => ?_) (λ hf => ?_)|refine AD (AhM _ I) ?_|refine AD (AhL _ I) ?_)<;>conv=>whnf
 all_goals (unfold FT;first|exact VV ⟨V',V',V'⟩|exact RT (by rintro ⟨h1,h2,h3⟩;first|contradiction|omega))
theorem AiH (I:e8 L) (v:Int):Ev L 14 [.agg (GY w),.int .i64 v] (.bool (decide (FT w v))):=by
 refine Ev.x I.UZ rfl rfl ?_;repeat' (first|apply AE|refine FE (eT _ I) (λ hf => ?_) (λ hf => ?_)|refine FE (WJ I _ _ _) (λ hf => ?_) (λ hf => ?_)|refine AD (AiJ _ I) ?_|refine AD (AiI _ I) ?_)<;>conv=>whnf
 all_goals (unfold FT;first|exact VV ⟨V',V'⟩|exact RT (by rintro ⟨h1,h2⟩;contradiction))
end Go.c6

namespace Go.c6
open F
attribute [local irreducible] AA AF AL AC CQ AW BA A8 B3 BL CN D4 BP A1 B6 CF AB BG AH pw BV BO CS CY C2 BX CG BU CX
variable {L:Lib}
theorem LV {α:Type} {l:List α} {i:Nat} {e:α} (h:l[i]? = some e):l.drop i=e::l.drop (i+1):=by
 obtain ⟨h1,h2⟩:=zS h;rw[List.drop_eq_getElem_cons h1,h2]
theorem YC {α:Type} {l:List α} {i:Nat} (h:l.length<=i):l.drop i=[]:=List.drop_eq_nil_of_le h
structure Nd where
 q:Bool
 ts:List (Int × Int)
abbrev H5 (t:Int × Int):u_:=[.int .i64 t.1,.int .i64 t.2]
abbrev SL (n:Nd):u_:=[.sl n.q (n.ts.map H5)]
structure Nt where
 d:Wd
 c:Wd
 s:Int
 qn:Bool
 nodes:List Nd
 qx:Bool
 next:List Int
 out:Int
abbrev FG (n:Nt):u_:=[.int .i64 n.d.b,.int .i64 n.d.f,.int .i64 n.d.r,.int .i64 n.d.o,.int .i64 n.c.b,.int .i64 n.c.f,.int .i64 n.c.r,.int .i64 n.c.o,.int .i64 n.s,.sl n.qn (n.nodes.map SL),.sl n.qx (n.next.map C0),.int .i64 n.out]
def GF (c:Wd) (s:Int) (k:Nat) (t:Int × Int):Bool:=decide (0<=t.1/\t.1<=s+k/\(t.2=pw c.f\/FT c t.2))
def GT (c:Wd) (s:Int):Nat->List Nd->Bool
 | _,[]=>true
 | k,n::l=>(decide (n.ts.length<=64)&&n.ts.all (GF c s k))&&GT c s (k+1) l
def I6 (m:Int) (l:List Int):Bool:=l.all λ k=>decide (0<=k/\k<=m)
def HR (n:Nt):Bool:=decide (WV n.d)&&decide (WV n.c)&&decide (0<=n.s/\n.s<=64/\n.nodes.length<=64/\(n.next.length:Int)=n.s)&&GT n.c n.s 0 n.nodes&&I6 (n.s+n.nodes.length) n.next&&decide (0<=n.out/\n.out<=n.s+n.nodes.length)
variable (n:Nt)
theorem E7:HR n=true↔WV n.d/\WV n.c/\(0<=n.s/\n.s<=64/\n.nodes.length<=64/\(n.next.length:Int)=n.s)/\GT n.c n.s 0 n.nodes=true/\I6 (n.s+n.nodes.length) n.next=true/\0<=n.out/\n.out<=n.s+n.nodes.length:=by
 simp only[HR,ua,decide_eq_true_eq,and_assoc]
theorem OL {x:Bool} (h : ¬ x=true):false=x:=by simp at h;rw[h]
theorem wP {x:Bool} (h:x=true):true=x:=by rw[h]
theorem eR (I:e8 L) (J:w6 L):Ev L 21 [.agg (FG n)] (.bool (HR n)):=by
 refine Ev.x J.KH rfl rfl ?_;repeat' (first|(apply AG<;>intro hc<;>try omega)|apply AR|apply AE|refine FE (QP ⟨_,_,_,_⟩ I) (λ hf => ?_) (λ hf => ?_))<;>conv=>whnf
 all_goals try (
  refine FB (OL ?_);rw[E7];rintro ⟨x1,x2,x3,_⟩
  first|contradiction|omega)
 rename_i h1 h3 h4 h5;have h2:=hf;have h6:=hc;have h1:WV n.d:=h1;have h2:WV n.c:=h2;have hw:=h2;unfold WV at hw;refine CE (λ i=>n.nodes.length-i) (λ(i:Nat)=>i<=n.nodes.length/\GT n.c n.s i (n.nodes.drop i)=GT n.c n.s 0 n.nodes) (λ i=>[(45,.int .i64 i)]) (λ_=>[]) 0 ⟨O',rfl⟩ ?_;intro i ⟨p1,p2⟩ ih;repeat' (first|(apply AG<;>intro hc<;>try omega)|(apply AP;omega)|apply AR|(refine LP ?_ (λ_=>rfl) (λ e he => ?_);omega)|apply AE)<;>conv=>whnf
 ·rename Nd=>nd
  have hnd:=he;rw[LV hnd,GT,decide_eq_false O']at p2;refine FB (OL ?_);rw[E7,<-p2];simp
 ·rename Nd=>nd
  have hnd:=he;rw[LV hnd,GT,decide_eq_true O',Ca]at p2;refine CE (λ j=>nd.ts.length-j) (λ(j:Nat)=>j<=nd.ts.length/\(nd.ts.drop j).all (GF n.c n.s i)=nd.ts.all (GF n.c n.s i)) (λ j=>[(57,.int .i64 j)]) (λ_=>[]) 0 ⟨O',rfl⟩ ?_;intro j ⟨r1,r2⟩ lz;repeat' (first|(apply AG<;>intro hc<;>try omega)|(apply AP;omega)|(refine F3 ?_ (λ_ _ => ?_);omega)|(refine LP ?_ (λ_=>rfl) (λ e he => ?_);omega)|apply AE|refine FE (WH ⟨_,_,_,_⟩ I _) (λ hf => ?_) (λ hf => ?_))<;>conv=>whnf
  all_goals try (
   have hb:GF n.c n.s i e=false:=by
    simp only[GF,decide_eq_false_iff_not];intro hh;first|omega|exact absurd hh.2.2 (λ hx=>hx.elim (λ hx=>O') (λ hx=>by contradiction))
   rw[LV he,qa,hb,xb]at r2;rw[<-r2,xb]at p2;refine FB (OL ?_);rw[E7,<-p2];simp;done)
  all_goals try (
   have hb:GF n.c n.s i e=true:=by
    simp only[GF,decide_eq_true_eq];exact ⟨O',O',by first|exact Or.inr V'|exact Or.inl V'⟩
   rw[LV he,qa,hb,Ca]at r2;exact BN [] B' (lz (j+1) O' ⟨O',r2⟩))
  rw[YC O']at r2;rw[<-r2,Jc,Ca]at p2;exact A9 [] (ih (i+1) O' ⟨O',p2⟩)
 ·rw[YC O',GT]at p2
  refine CE (λ i=>n.next.length-i) (λ(i:Nat)=>i<=n.next.length/\I6 (n.s+n.nodes.length) (n.next.drop i)=I6 (n.s+n.nodes.length) n.next) (λ i=>[(99,.int .i64 i)]) (λ_=>[]) 0 ⟨O',rfl⟩ ?_;intro k ⟨r1,r2⟩ Rq;repeat' (first|(apply AG<;>intro hc<;>try omega)|(apply AP;omega)|(refine LP ?_ (λ_=>rfl) (λ e he => ?_);omega)|apply AE)<;>conv=>whnf
  all_goals try (
   have hb:decide (0<=e/\e<=n.s+n.nodes.length)=false:=by (rw[decide_eq_false_iff_not];omega)
   rw[LV he,I6,qa,hb,xb]at r2;refine FB (OL ?_);rw[E7,<-r2];simp;done)
  all_goals try (
   have hb:decide (0<=e/\e<=n.s+n.nodes.length)=true:=by (rw[decide_eq_true_eq];omega)
   rw[LV he,I6,qa,hb,Ca]at r2;exact BN [] B' (Rq (k+1) O' ⟨O',r2⟩))
  all_goals (
   rw[YC O']at r2;first
    | (refine FB (wP ?_);rw[E7];exact ⟨h1,h2,O',p2.symm,r2.symm,O',O'⟩)
    | (refine FB (OL ?_);rw[E7];omega))
end Go.c6

namespace Go.c6
open F
attribute [local irreducible] AA AF AL AC CQ AW BA A8 B3 BL CN D4 BP A1 B6 CF AB BG AH pw BV BO CS CY C2 BX CG BU CX
variable {L:Lib}
theorem AnK (n:Int):EB (IntKind.i64.wrap n):=by
 unfold EB;rw[IntKind.wrap_i64];omega
def DU (v m:Int):Int:=if m<1 then 0 else v%m
theorem YI (W:u5 L) (v m:Int) (hv:EB v) (hm:m<=9223372036854775807):Ev L 34 [.int .i64 v,.int .i64 m] (.int .i64 (DU v m)):=by
 unfold EB at hv;refine Ev.x W.VQ rfl rfl ?_;repeat' (first|(apply AG<;>intro hc<;>try omega)|(apply AP;omega)|(refine N2 ?_ (λ_ _ _ => ?_) (λ_ _ _ _ => ?_);omega;all_goals try omega)|apply AE)<;>conv=>whnf
 all_goals (refine CJ ?_;unfold DU;first|rw[if_pos O']|rw[if_neg O'])
 all_goals omega
def FM (l:List Int) (i:Int):Int:=if 0<=i/\i<l.length then l.getD i.toNat 0 else 0
theorem yO (W:u5 L) (l:List Int) (q:Bool) (i:Int):Ev L 35 [.sl q (l.map C0),.int .i64 i] (.int .i64 (FM l i)):=by
 refine Ev.x W.VN rfl rfl ?_;repeat' (first|(apply AG<;>intro hc<;>try omega)|apply AR|(refine kC ?_ (λ_=>rfl) (λ e he => ?_);omega)|apply AE)<;>conv=>whnf
 all_goals (refine CJ ?_;unfold FM;first|rw[if_neg O']|(rw[if_pos O',List.getD_eq_getElem?_getD,he];rfl))
theorem RO {v m:Int} (h:1<=m):0<=DU v m/\DU v m<m:=by
 unfold DU;rw[if_neg O'];exact ⟨zc _ O',Hb _ O'⟩
def CH (k least most above:Int):Wd :=
 let K:=DU k 1099511627776
 let b:=least+K%(most-least+1)
 let K1:=K/(most-least+1)
 ⟨b,max (b-1-above-K1%2) 0,1+K1/2%3,1+K1/2/3%2⟩
theorem yP (W:u5 L) (k least most above:Int) (hk:EB k) (h1:1<=least/\least<=most/\most<=1000/\0<=above/\above<=1000):Ev L 36 [.int .i64 k,.int .i64 least,.int .i64 most,.int .i64 above] (.agg (GY (CH k least most above))):=by
 refine Ev.x W.VR rfl rfl ?_;have hr:=RO (v:=k) (m:=1099511627776) O';have h3:0<=DU k 1099511627776/(most-least+1):=Int.ediv_nonneg hr.1 O';have h4:DU k 1099511627776/(most-least+1)<=DU k 1099511627776:=Int.ediv_le_self _ hr.1;repeat' (first|(apply AG<;>intro hc<;>try omega)|(apply AP;omega)|(apply BS;omega)|(refine N2 ?_ (λ_ _ _ => ?_) (λ_ _ _ _ => ?_);omega;all_goals try omega)|(refine IZ ?_ ?_ (λ_ => ?_) (λ_ _ => ?_);omega;omega;all_goals try omega)|apply AE|refine AD (YI W _ _ hk O') ?_)<;>conv=>whnf
 all_goals (
  refine AY ?_ (by simp [A3,B7]);simp only[CH,AV.agg.injEq,Ab,AV.int.injEq,true_and,and_true];omega)
theorem Zw {k least most above:Int} (h:4<=least/\least<=most/\most<=24/\0<=above):WV (CH k least most above)/\least<=(CH k least most above).b/\(CH k least most above).b<=most:=by
 have hr:=RO (v:=k) (m:=1099511627776) O';have h1:0<=DU k 1099511627776%(most-least+1):=zc _ O';have h2:DU k 1099511627776%(most-least+1)<most-least+1:=Hb _ O';simp only[WV,CH];generalize DU k 1099511627776/(most-least+1)=d;omega
theorem AiP (W:u5 L) (w:Wd) (h:WV w):Ev L 41 [.agg (GY w)] (.int .i64 (pw w.f)):=by
 unfold WV at h;refine Ev.x W.VP rfl rfl ?_;repeat' (first|(refine F3 ?_ (λ_ _ => ?_);omega)|(apply CD;omega)|apply AE)<;>conv=>whnf
 exact CJ rfl
theorem Q1 {w:Wd} (h:WV w):Q0 w = -pw (w.b-1)/\QX w=pw (w.b-1)-1/\1<=pw (w.b-1)/\pw (w.b-1)<=8388608:=by
 have h':=h;unfold WV at h';refine ⟨by rw[Q0,if_pos h],by rw[QX,if_pos h],HF _,?_⟩;have:=NL (n:=w.b-1) (m:=23) O'
 have e:pw 23=8388608:=by unfold pw;rfl
 omega
theorem Vk {α:Type} (f:Nat->α) (n:Nat):(nb (n+1)).map f=(nb n).map f++[f n]:=by rw[List.range_succ,Cb];rfl
def M3 (b v:Int):Int:=DU (IntKind.i64.wrap (v+b)) (2*b+1)-b
def IK (b:Int) (l:List Int) (n:Nat):List Int:=(nb n).map λ i:Nat=>M3 b (FM l (i:Int))
theorem fE (W:u5 L) (b:Int) (hb:0<=b/\b<=1000000000000) (l:List Int) (q:Bool) (n:Nat) (hn:n<=1000000):Ev L 40 [.int .i64 b,.sl q (l.map C0),.int .i64 n] (.sl false ((IK b l n).map C0)):=by
 refine Ev.x W.P8 rfl rfl ?_;(repeat' (apply AE<;>conv=>whnf))
 refine FJ (λ i _=>n-i) (λ(i:Nat) (o:List Int)=>i<=n/\o.length=i/\o=IK b l i) (λ i o=>[(7,.row 7 0 1 0 o.length),(8,.int .i64 i)]) (λ i o=>[(7,7,.rw 1 (o.map C0))]) 0 [] ⟨O',rfl,rfl⟩ ?_;intro i o ⟨p1,p2,p3⟩ ih;have hr:=RO (v:=IntKind.i64.wrap (FM l i+b)) (m:=2*b+1) O';repeat' (first|(apply AG<;>intro hc<;>try omega)|(apply AP;omega)|(apply BS;omega)|(apply FL;omega)|apply sL|(refine C8 (λ_=>rfl) rfl ?_ ?_;(first|rfl|simp))|apply DG|apply AE|refine AD (yO W l _ _) ?_|refine AD (YI W _ _ (AnK _) O') ?_)<;>conv=>whnf
 ·refine EE (enc:=C0) _ rfl rfl rfl O' O' ?_
  (conv=>whnf)
  repeat' (first|(apply AP;omega)|fail)<;>conv=>whnf
  refine BN [(7,27)] B' (ih (i+1) _ O' ⟨O',by simp [p2],?_⟩);rw[IK,Vk,p3];rfl
 ·have:i=n:=O'
  subst this;exact AY (by rw[p3]) (by simp [A3,uC])
end Go.c6

namespace Go.c6
open F
attribute [local irreducible] AA AF AL AC CQ AW BA A8 B3 BL CN D4 BP A1 B6 CF AB BG AH pw BV BO CS CY C2 BX CG BU CX
variable {L:Lib} (n:Nt)
theorem aI (I:e8 L) (J:w6 L):Ev L 27 [.agg (FG n)] (.bool (HR n)):=by
 refine Ev.x J.KP rfl rfl ?_;repeat' (first|(apply AG<;>intro hc<;>try omega)|apply AR|apply AE|refine FE (eT ⟨_,_,_,_⟩ I) (λ hf => ?_) (λ hf => ?_)|refine FE (WJ I _ _ _) (λ hf => ?_) (λ hf => ?_))<;>conv=>whnf
 all_goals try (
  refine FB (OL ?_);rw[E7];rintro ⟨x1,x2,x3,_⟩
  first|contradiction|omega)
 rename_i h1 h2 h5;have h3:=hf;have h6:=hc;have h1:WV n.d:=h1;have h2:WV n.c:=h2;have hw:=h2;unfold WV at hw;refine CE (λ i=>n.nodes.length-i) (λ(i:Nat)=>i<=n.nodes.length/\GT n.c n.s i (n.nodes.drop i)=GT n.c n.s 0 n.nodes) (λ i=>[(3,.int .i64 i)]) (λ_=>[]) 0 ⟨O',rfl⟩ ?_;intro i ⟨p1,p2⟩ ih;repeat' (first|(apply AG<;>intro hc<;>try omega)|(apply AP;omega)|apply AR|(refine LP ?_ (λ_=>rfl) (λ e he => ?_);omega)|apply AE)<;>conv=>whnf
 ·rename Nd=>nd
  have hnd:=he;rw[LV hnd,GT,decide_eq_false O']at p2;refine FB (OL ?_);rw[E7,<-p2];simp
 ·rename Nd=>nd
  have hnd:=he;rw[LV hnd,GT,decide_eq_true O',Ca]at p2;refine CE (λ j=>nd.ts.length-j) (λ(j:Nat)=>j<=nd.ts.length/\(nd.ts.drop j).all (GF n.c n.s i)=nd.ts.all (GF n.c n.s i)) (λ j=>[(4,.int .i64 j)]) (λ_=>[]) 0 ⟨O',rfl⟩ ?_;intro j ⟨r1,r2⟩ lz;repeat' (first|(apply AG<;>intro hc<;>try omega)|(apply AP;omega)|(refine F3 ?_ (λ_ _ => ?_);omega)|(apply CD;omega)|apply AR|(refine A4 V' ?_ rfl ?_;omega)|(refine LP ?_ (λ_=>rfl) (λ e he => ?_);omega)|apply AE|refine FE (AiH ⟨_,_,_,_⟩ I _) (λ hf => ?_) (λ hf => ?_)|refine FE (WJ I _ _ _) (λ hf => ?_) (λ hf => ?_))<;>conv=>whnf
  all_goals try (
   have hb:GF n.c n.s i e=false:=by
    simp only[GF,decide_eq_false_iff_not];intro hh;first|omega|exact absurd hh.2.2 (λ hx=>hx.elim (λ hx=>O') (λ hx=>by contradiction))
   rw[LV he,qa,hb,xb]at r2;rw[<-r2,xb]at p2;refine FB (OL ?_);rw[E7,<-p2];simp;done)
  all_goals try (
   have hb:GF n.c n.s i e=true:=by
    simp only[GF,decide_eq_true_eq];exact ⟨O',O',by first|exact Or.inr V'|exact Or.inl V'⟩
   rw[LV he,qa,hb,Ca]at r2;exact BN [] B' (lz (j+1) O' ⟨O',r2⟩))
  rw[YC O']at r2;rw[<-r2,Jc,Ca]at p2;exact A9 [] (ih (i+1) O' ⟨O',p2⟩)
 ·rw[YC O',GT]at p2
  refine CE (λ i=>n.next.length-i) (λ(i:Nat)=>i<=n.next.length/\I6 (n.s+n.nodes.length) (n.next.drop i)=I6 (n.s+n.nodes.length) n.next) (λ i=>[(7,.int .i64 i)]) (λ_=>[]) 0 ⟨O',rfl⟩ ?_;intro k ⟨r1,r2⟩ Rq;repeat' (first|(apply AG<;>intro hc<;>try omega)|(apply AP;omega)|(refine LP ?_ (λ_=>rfl) (λ e he => ?_);omega)|apply AE|refine FE (WJ I _ _ _) (λ hf => ?_) (λ hf => ?_))<;>conv=>whnf
  all_goals try (
   have hb:decide (0<=e/\e<=n.s+n.nodes.length)=false:=by (rw[decide_eq_false_iff_not];omega)
   rw[LV he,I6,qa,hb,xb]at r2;refine FB (OL ?_);rw[E7,<-r2];simp;done)
  all_goals try (
   have hb:decide (0<=e/\e<=n.s+n.nodes.length)=true:=by (rw[decide_eq_true_eq];omega)
   rw[LV he,I6,qa,hb,Ca]at r2;exact BN [] B' (Rq (k+1) O' ⟨O',r2⟩))
  all_goals (
   rw[YC O']at r2;first
    | (refine FB (wP ?_);rw[E7];exact ⟨h1,h2,O',p2.symm,r2.symm,O',O'⟩)
    | (refine FB (OL ?_);rw[E7];omega))
theorem SS {α:Type} {o F:List α} {i:Nat} {v:α} (hl:o.length=F.length) (h:o.take i=F.take i) (hv:F[i]? = some v):(o.set i v).length=F.length/\(o.set i v).take (i+1)=F.take (i+1):=by
 obtain ⟨hi,rfl⟩:=zS hv;refine ⟨by simp [hl],?_⟩;rw[Pc,Pc,<-h];congr 1
 ·rw[List.take_set_of_le (Na i)]
 ·rw[hv];simp [hl,hi]
theorem fK {α:Type} {o F:List α} {i:Nat} (hl:o.length=F.length) (h:o.take i=F.take i) (hi:F.length<=i):o=F:=by
 rwa [zT O',zT hi]at h
end Go.c6

namespace Go.c6
open F
attribute [local irreducible] AA AF AL AC CQ AW BA A8 B3 BL CN D4 BP A1 B6 CF AB BG AH pw BV BO CS CY C2 BX CG BU CX
variable {L:Lib}
end Go.c6

namespace Go.c6
open F
attribute [local irreducible] AA AF AL AC CQ AW BA A8 B3 BL CN D4 BP A1 B6 CF AB BG AH pw BV BO CS CY C2 BX CG BU CX
variable {L:Lib}
section
variable (n:Nt)
end
end Go.c6

namespace Go.c6
open F
attribute [local irreducible] AA AF AL AC CQ AW BA A8 B3 BL CN D4 BP A1 B6 CF AB BG AH pw BV BO CS CY C2 BX CG BU CX
variable {L:Lib}
end Go.c6

namespace Go.c6
variable {L:Lib}
def CT (N:Nat):AU->Bool
 | .t n=>db n N
 | .c _=>true
def bA (N:Nat):EI->Bool
 | .m5 x=>CT N x
 | .v5 _ _=>true
 | .pick c a b=>CT N c&&(CT N a&&CT N b)
 | .bin _ x y=>CT N x&&CT N y
 | .beq _ x y=>CT N x&&CT N y
 | .un _ x=>CT N x
 | .conv _ x=>CT N x
 | .box _ x=>CT N x
 | .alloc _ _=>true
 | .build _ ps=>ps.all λ p=>CT N p.2.2
 | .a7 _ _ ps=>ps.all (CT N)
 | .j4 x _=>CT N x
 | .pn x _ _ _=>CT N x
 | .u6 _ _ x i=>CT N x&&CT N i
 | .ld _ _ x=>CT N x
 | .vm _ _ x=>CT N x
 | .st _ x v=>CT N x&&CT N v
 | .mk _ _ _ _ l c=>CT N l&&CT N c
 | .di _ x lo hi=>CT N x&&((lo.all (CT N))&&(hi.all (CT N)))
 | .ext x _=>CT N x
 | .len x=>CT N x
 | .mm _ xs=>xs.all (CT N)
 | .app _ _ _ x y=>CT N x&&CT N y
 | .call _ xs=>xs.all (CT N)
 | .c7 _ xs=>xs.all (CT N)
 | .uq _ x=>CT N x
 | .gx _ x=>CT N x
 | .bad=>true
 | .fx x=>CT N x
 | .pg _ _ _ x y=>CT N x&&CT N y
 | .ri _ _ xs=>xs.all (CT N)
 | .ti _ x=>CT N x
 | .m9 x xs=>CT N x&&xs.all (CT N)
 | .j6 _ xs=>xs.all (CT N)
 | .n7 _ _ xs=>xs.all (CT N)
 | .cg _ _ xs=>xs.all (CT N)
 | .tk _ _ x y=>CT N x&&CT N y
 | .pe _ _ x v=>CT N x&&CT N v
def ZX (N:Nat) (a:AI):Bool:=(a.dst.all λ d=>db d N)&&((a.guard.all λ g=>db g.1 N)&&bA N a.op)
def JL (N:Nat):BK->Bool
 | .skip=>true
 | .ops l _=>l.all (ZX N)
 | .dr c ts _=>JL N c&&ts.all λ t=>db t N
 | .scope c=>JL N c
 | .seq a b=>JL N a&&JL N b
 | .cond c a b=>CT N c&&(JL N a&&JL N b)
 | .block _ c=>JL N c
 | .loop c=>JL N c
 | .exit _=>true
 | .ret=>true
def S4 (N:Nat):It->Bool
 | .code c=>JL N c
 | .kx ts _=>ts.all λ t=>db t N
 | .c9 _=>true
 | .lp c=>JL N c
structure Gh (N:Nat) (G T T':Tm):Prop where
 lo : ∀ j,j<N->e9 T' j=e9 T j
 hi : ∀ j,N<=j->e9 T' j=e9 G j
variable {N:Nat} {G:Tm}
theorem V3 {a b:Nat}:db a b=true↔a<b:=by simp [db];omega
theorem Gh.ev {st:St} {T':Tm} {o:AJ} (h:Gh N G st.tm T') {x:AU} (hx:CT N x=true):St.ev ⟨T',o⟩ x=st.ev x:=by
 cases x with
 | t n=>exact h.lo n (V3.1 hx)
 | c v=>rfl
theorem WX {f g:AU->AV} {xs:List AU} (h : ∀ x,CT N x=true->f x=g x) (hx:xs.all (CT N)=true):xs.map f=xs.map g:=by
 apply Pa;intro x hm;exact h x (Eb.1 hx x hm)
theorem Aha {C:Cl} {b7:N'} {ρ ρ':AU->AV} {own:AJ} (h : ∀ x,CT N x=true->ρ' x=ρ x) : ∀ (op:EI),bA N op=true->c8 C b7 ρ' own op=c8 C b7 ρ own op:=by
 intro op k6;cases op;case build zero ps =>
  have:(ps.map λ p=>(p.1,p.2.1,ρ' p.2.2))=ps.map λ p=>(p.1,p.2.1,ρ p.2.2):=by
   apply Pa;intro p hm;rw[h _ (Eb.1 k6 p hm)]
  simp only[c8,this]
 case a7 s a8 ps =>
  have:ps.mapM (λ x=>cellsOf (ρ' x))=ps.mapM (λ x=>cellsOf (ρ x)):=by
   have vf:ps.all (CT N)=true:=k6;clear k6;induction ps with
   | nil=>rfl
   | cons p r ih =>
    simp only[qa,ua]at vf;simp only[oa,h _ vf.1,ih vf.2]
  simp only[c8,this]
 case mm m xs=>simp only[c8,WX h k6]
 case call f xs=>simp only[c8,WX h k6]
 case c7 f xs=>simp only[c8,WX h k6]
 case ri p f xs =>
  have:xs.mapM (λ x=>HS (ρ' x))=xs.mapM (λ x=>HS (ρ x)):=by
   have vf:xs.all (CT N)=true:=k6;clear k6;induction xs with
   | nil=>rfl
   | cons p r ih =>
    simp only[qa,ua]at vf;simp only[oa,h _ vf.1,ih vf.2]
  simp only[c8,this]
 case j6 f xs=>simp only[c8,WX h k6]
 case n7 s f xs=>simp only[c8,WX h k6]
 case cg s f xs=>simp only[c8,WX h k6]
 case m9 x xs =>
  simp only[bA,ua]at k6;simp only[c8,WX h k6.2,h _ k6.1]
 case di a8 x lo hi =>
  simp only[bA,ua]at k6;obtain ⟨h1,h2,h3⟩:=k6;cases lo<;>cases hi<;>simp only[Option.all_some,Option.all_none]at h2 h3<;>simp only[c8,h _ h1,h _,h2,h3]
 all_goals (simp only[bA,ua]at k6;simp only[c8,h _,k6])
theorem Gh.dst {T T':Tm} (h:Gh N G T T') {d:Nat} (hd:d<N) (v:AV):Gh N G (kb T d v) (kb T' d v):=by
 constructor
 ·intro j hj
  rw[cH,cH,h.lo j hj]
 ·intro j hj
  rw[cH,h.hi j hj,if_neg O']
theorem Gh.ny {T T':Tm} {o:AJ} (h:Gh N G T T') {d:Option Nat} (hd:(d.all λ d=>db d N)=true) (v:AV):((⟨T',o⟩:St).dst d v).own=((⟨T,o⟩:St).dst d v).own/\Gh N G ((⟨T,o⟩:St).dst d v).tm ((⟨T',o⟩:St).dst d v).tm:=by
 cases d with
 | none=>exact ⟨rfl,h⟩
 | some d=>exact ⟨rfl,h.dst (V3.1 hd) v⟩
theorem AmW {C:Cl} {a:AI} (ha:ZX N a=true) {T T':Tm} {o:AJ} (h:Gh N G T T') {s':St} (hs:DB C a ⟨T',o⟩=some s') : ∃ s,DB C a ⟨T,o⟩=some s/\s'.own=s.own/\Gh N G s.tm s'.tm:=by
 simp only[ZX,ua]at ha;obtain ⟨h1,h2,h3⟩:=ha;have hg:GD ⟨T',o⟩ a.guard=GD ⟨T,o⟩ a.guard:=by
  cases hgg:a.guard with
  | none=>rfl
  | some g =>
   rw[hgg]at h2;simp only[GD,h.lo _ (V3.1 h2)]
 have he:=Aha (C:=C) (b7:=a.b7) (own:=o) (ρ:=St.ev ⟨T,o⟩) (ρ':=St.ev ⟨T',o⟩) (λ x hx=>Gh.ev (st:=⟨T,o⟩) h hx) a.op h3;unfold DB at hs ⊢;rw[hg,he]at hs;cases Fc:GD ⟨T,o⟩ a.guard with
 | none=>rw[Fc]at hs;cases hs
 | some b =>
  rw[Fc]at hs;cases b with
  | false =>
   simp only[xa]at hs ⊢;subst hs;exact ⟨_,rfl,h.ny h1 _⟩
  | true =>
   simp only at hs ⊢;cases hee:c8 C a.b7 (St.ev ⟨T,o⟩) o a.op with
   | none=>rw[hee]at hs;cases hs
   | some e =>
    rw[hee]at hs;simp only[va,xa]at hs ⊢;subst hs;refine ⟨_,rfl,?_⟩;cases e with
    | val v=>exact h.ny h1 v
    | new s b v=>exact ⟨rfl,(h.ny (o:=o) h1 _).2⟩
    | Bf s b v=>exact ⟨rfl,(h.ny (o:=o) h1 _).2⟩
    | dw v o'=>exact ⟨rfl,(h.ny (o:=o) h1 _).2⟩
    | q6 s x=>exact ⟨rfl,(h.ny (o:=o) h1 _).2⟩
    | zw s x v=>exact ⟨rfl,(h.ny (o:=o) h1 _).2⟩
    | Cu s v o'=>exact ⟨rfl,(h.ny (o:=o) h1 _).2⟩
theorem Xr {C:Cl} : ∀ {l:List AI},l.all (ZX N)=true -> ∀ {T T':Tm} {o:AJ},Gh N G T T' -> ∀ {s':St},DJ C l ⟨T',o⟩=some s' -> ∃ s,DJ C l ⟨T,o⟩=some s/\s'.own=s.own/\Gh N G s.tm s'.tm
 | [],_,T,T',o,h,s',hs=>by
  simp only[DJ,xa]at hs;subst hs;exact ⟨_,rfl,rfl,h⟩
 | a::l,ha,T,T',o,h,s',hs=>by
  simp only[qa,ua]at ha;simp only[DJ]at hs;cases h1:DB C a ⟨T',o⟩ with
  | none=>rw[h1]at hs;cases hs
  | some s1 =>
   rw[h1]at hs;obtain ⟨s2,e1,e2,e3⟩:=AmW ha.1 h h1;obtain ⟨T1,o1⟩:=s1;obtain ⟨T2,o2⟩:=s2;simp only at e2 e3;subst e2;obtain ⟨s3,f1,f2,f3⟩:=Xr ha.2 e3 hs;exact ⟨s3,by simp only[DJ,e1,f1],f2,f3⟩
theorem aL {id:Nat} : ∀ {k k':List It},k.all (S4 N)=true->EG id k=some k'->k'.all (S4 N)=true
 | [],_,_,h=>by simp [EG]at h
 | it::k,k',hk,h=>by
  simp only[qa,ua]at hk;cases it with
  | c9 i =>
   simp only[EG]at h;split at h
   ·cases h;exact hk.2
   ·exact aL hk.2 h
  | code c=>simp only[EG]at h;exact aL hk.2 h
  | kx a b=>simp only[EG]at h;exact aL hk.2 h
  | lp c=>simp only[EG]at h;exact aL hk.2 h
theorem J1 {C:Cl} : ∀ (n:Nat) {k:List It},k.all (S4 N)=true -> ∀ {T T':Tm} {o:AJ},Gh N G T T' -> ∀ {s':St},run C n k ⟨T',o⟩=some s' -> ∃ s,run C n k ⟨T,o⟩=some s/\s'.own=s.own/\Gh N G s.tm s'.tm
 | 0,k,_,T,T',o,_,s',hs=>by simp [run]at hs
 | n+1,[],_,T,T',o,h,s',hs=>by
  simp only[run,xa]at hs ⊢;subst hs;exact ⟨_,rfl,rfl,h⟩
 | n+1,.c9 _::k,hk,T,T',o,h,s',hs=>by
  simp only[qa,ua]at hk;simp only[run]at hs ⊢;exact J1 n hk.2 h hs
 | n+1,.kx ts ss::k,hk,T,T',o,h,s',hs=>by
  simp only[qa,ua]at hk;simp only[run]at hs ⊢;refine J1 n hk.2 ⟨λ j hj => ?_,λ j hj => ?_⟩ hs
  ·rw[ZC,ZC,h.lo j hj]
  ·rw[ZC,h.hi j hj,if_neg]
   intro hc;have:=Eb.1 hk.1 j (by simpa using hc)
   have:=V3.1 this
   omega
 | n+1,.lp c::k,hk,T,T',o,h,s',hs=>by
  simp only[run]at hs ⊢;have je:=hk;simp only[qa,ua]at hk;exact J1 n (by simp only[qa,ua];exact ⟨hk.1,hk.1,hk.2⟩) h hs
 | n+1,.code c::k,hk,T,T',o,h,s',hs=>by
  simp only[qa,ua]at hk;obtain ⟨hc,hk⟩:=hk;cases c with
  | skip=>simp only[run]at hs ⊢;exact J1 n hk h hs
  | ops l d =>
   simp only[run]at hs ⊢;cases h1:DJ C l ⟨T',o⟩ with
   | none=>rw[h1]at hs;cases hs
   | some s1 =>
    rw[h1]at hs;obtain ⟨s2,e1,e2,e3⟩:=Xr (show l.all (ZX N)=true from hc) h h1;obtain ⟨T1,o1⟩:=s1;obtain ⟨T2,o2⟩:=s2;simp only at e2 e3;subst e2;rw[e1];exact J1 n hk e3 hs
  | dr c ts ss =>
   simp only[run]at hs ⊢;simp only[S4,JL,ua]at hc;exact J1 n (by simp only[qa,ua];exact ⟨hc.1,hc.2,hk⟩) h hs
  | scope c =>
   simp only[run]at hs ⊢;exact J1 n (by simp only[qa,ua];exact ⟨hc,hk⟩) h hs
  | seq a b =>
   simp only[run]at hs ⊢;simp only[S4,JL,ua]at hc;exact J1 n (by simp only[qa,ua];exact ⟨hc.1,hc.2,hk⟩) h hs
  | cond x a b =>
   simp only[S4,JL,ua]at hc;simp only[run,Gh.ev (st:=⟨T,o⟩) h hc.1]at hs ⊢;cases hx:St.ev ⟨T,o⟩ x<;>rw[hx]at hs<;>try (simp at hs;done)
   rename_i q;cases q
   ·exact J1 n (by simp only[qa,ua];exact ⟨hc.2.2,hk⟩) h hs
   ·exact J1 n (by simp only[qa,ua];exact ⟨hc.2.1,hk⟩) h hs
  | block id c =>
   simp only[run]at hs ⊢;exact J1 n (by simp only[qa,ua];exact ⟨hc,rfl,hk⟩) h hs
  | loop c =>
   simp only[run]at hs ⊢;exact J1 n (by simp only[qa,ua];exact ⟨hc,hc,hk⟩) h hs
  | exit id =>
   simp only[run]at hs ⊢;cases he:EG id k with
   | none=>rw[he]at hs;cases hs
   | some k' =>
    rw[he]at hs;exact J1 n (aL hk he) h hs
  | ret =>
   simp only[run,xa]at hs ⊢;subst hs;exact ⟨_,rfl,rfl,h⟩
def HI (N:Nat):Tm->Tm
 | []=>[]
 | (i,v)::r=>(N+i,v)::HI N r
def gh (N:Nat):Tm->Tm
 | []=>[]
 | (i,v)::r=>bif qb N i then (Hc i N,v)::gh N r else gh N r
theorem rF (N j:Nat) : ∀ T:Tm,e9 (HI N T) (N+j)=e9 T j
 | []=>rfl
 | (i,v)::r=>by
  have ih:=rF N j r;simp only[HI,e9,ih];by_cases h:j=i
  ·simp [h]
  ·rw[if_neg h,if_neg O']
theorem rG {N j:Nat} (hj:j<N) : ∀ T:Tm,e9 (HI N T) j = .any
 | []=>rfl
 | (i,v)::r=>by
  simp only[HI,e9,rG hj r];rw[if_neg O']
theorem rD (N j:Nat) : ∀ T:Tm,e9 (gh N T) j=e9 T (N+j)
 | []=>rfl
 | (i,v)::r=>by
  have ih:=rD N j r;simp only[gh];cases h:qb N i
  ·have h1 : ¬ N<=i:=λ e=>by rw[Nat.ble_eq_true_of_le e]at h;cases h
   simp only[cond,e9,ih];rw[if_neg O']
  ·have h1:=Ba h
   simp only[cond,e9,ih];by_cases h2:j=i-N
   ·rw[if_pos (show j=Hc i N from h2),if_pos O']
   ·rw[if_neg (show ¬ j=Hc i N from h2),if_neg O']
def NG (f:AV->AV):Tm->Tm
 | []=>[]
 | (i,v)::r=>(i,f v)::NG f r
theorem LH {f:AV->AV} (hf:f .any = .any) (j:Nat) : ∀ T:Tm,e9 (NG f T) j=f (e9 T j)
 | []=>hf.symm
 | (i,v)::r=>by
  simp only[NG,e9,LH hf j r];by_cases h:j=i<;>simp [h]
theorem oD (f:AV->AV) : ∀ (i:Nat) (vs:u_),C5 i (vs.map f)=NG f (C5 i vs)
 | _,[]=>rfl
 | i,v::r=>by simp only[ya,C5,NG,oD f (i+1) r]
theorem cF (j:Nat) (b:Tm) : ∀ a:Tm,((a.any λ p=>p.1 == j)=true/\e9 (a++b) j=e9 a j)\/((a.any λ p=>p.1 == j)=false/\e9 (a++b) j=e9 b j)
 | []=>Or.inr ⟨rfl,rfl⟩
 | (i,v)::r=>by
  by_cases h:j=i
  ·subst h
   exact Or.inl (by simp [e9])
  ·have h' : ¬ i=j:=λ e=>h e.symm
   rcases cF j b r with ⟨h1,h2⟩|⟨h1,h2⟩
   ·exact Or.inl ⟨by rw[Jb,h1,Bool.or_true],by simp only[Mc,e9,if_neg h,h2]⟩
   ·exact Or.inr ⟨by rw[Jb,h1,Kc];simpa using h',by simp only[Mc,e9,if_neg h,h2]⟩
theorem oC (j:Nat) : ∀ (i:Nat) (vs:u_),((C5 i vs).any λ p=>p.1 == j)=true->j<i+vs.length
 | _,[],h=>by simp [C5]at h
 | i,v::r,h=>by
  simp only[C5,Jb,Bool.or_eq_true,beq_iff_eq]at h;rcases h with h|h
  ·simp;omega
  ·have:=oC j (i+1) r h
   simp;omega
theorem rE (j:Nat) : ∀ (i:Nat) (vs:u_),((C5 i vs).any λ p=>p.1 == j)=false->e9 (C5 i vs) j = .any
 | _,[],_=>rfl
 | i,v::r,h=>by
  simp only[C5,Jb,Bool.or_eq_false_iff,beq_eq_false_iff_ne]at h;simp only[C5,e9];rw[if_neg λ e=>h.1 e.symm,rE j (i+1) r h.2]
theorem MX (σ:GA):BM σ .any = .any:=rfl
def U7 (tm:Tm):List KW->Option (u_)
 | []=>some []
 | .tmp t::r=>match JZ (tg tm t),U7 tm r with
  | some v,some vs=>some (v::vs)
  | _,_=>none
 | .cell _ _ _::_=>none
def bM (N:Nat):List KW->Bool
 | []=>true
 | .tmp t::r=>db t N&&bM N r
 | .cell _ _ _::_=>false
def sM (N:Nat) (fn:AFn) (tm:Tm) (K:AV->Mem->Prop) (ax:Tm) (M':Mem):Prop:=gh N ax=tm /\ ∃ rs,U7 ax fn.res=some rs/\K (JD rs) M'
theorem Al4 {σ:GA} {v u:AV} (h:JZ v=some u):u=v/\BM σ v=BT σ v/\JZ (BM σ v)=some (BM σ v):=by
 cases v<;>simp [JZ]at h<;>subst h<;>exact ⟨rfl,rfl,rfl⟩
theorem pV {σ:GA} {ax:Tm} {M:Mem} {s s':St} (hr:RX σ ax M s') (px : ∀ j,j<N->e9 s'.tm j=e9 s.tm j) : ∀ {res:List KW} {rs:u_},bM N res=true->U7 ax res=some rs->res.mapM (F7 s)=some (rs.map (BT σ)) /\ ∀ v∈rs,BM σ v=BT σ v
 | [],rs,_,h=>by
  simp only[U7,xa]at h;subst h;exact ⟨rfl,Z'⟩
 | .cell _ _ _::_,_,_,h=>by simp [U7]at h
 | .tmp t::r,rs,hl,h=>by
  simp only[bM,ua]at hl;simp only[U7]at h;cases h1:JZ (tg ax t) with
  | none=>rw[h1]at h;simp at h
  | some v =>
   cases h2:U7 ax r with
   | none=>rw[h1,h2]at h;simp at h
   | some vs =>
    rw[h1,h2]at h;simp only[xa]at h;subst h;obtain ⟨i1,i2⟩:=pV hr px hl.2 h2;obtain ⟨rfl,j2,j3⟩:=Al4 (σ:=σ) h1;have:e9 s.tm t=BM σ (tg ax t):=by
     rcases hr.tm t with e|e
     ·rw[e]at h1;cases h1
     ·rw[<-px t (V3.1 hl.1),e]
    refine ⟨?_,?_⟩
    ·rw[j2]at j3 this
     simp only[oa,F7,this,j3,i1,ya];rfl
    ·intro v hv
     simp only[ub]at hv;rcases hv with rfl|hv
     ·exact j2
     ·exact i2 v hv
theorem Vq {σ:GA} {rs:u_} (h : ∀ v∈rs,BM σ v=BT σ v):JD (rs.map (BT σ))=BM σ (JD rs):=by
 match rs,h with
 | [],_=>rfl
 | [v],h=>exact (h v Z').symm
 | _::_::_,_=>rfl
theorem GU {f:Nat} {fn:AFn} {vs:u_} {tm:Tm} {M:Mem} {K:AV->Mem->Prop} (N:Nat) (hL:L f=some fn) (hp:za vs.length fn.ay=true) (hN:(qb fn.ay N&&(JL N fn.body&&bM N fn.res))=true)
  (h:AA L [.code fn.body] (C5 0 vs++HI N tm) M (sM N fn tm K)):BG L f vs tm M K:=by
 intro σ own hs;simp only[ua]at hN;obtain ⟨n1,n2,n3⟩:=hN;have n1:=Ba n1;have hp:vs.length=fn.ay:=Lb hp;have Jf:RX σ (C5 0 vs++HI N tm) M ⟨NG (BM σ) (C5 0 vs++HI N tm),own⟩:=⟨λ j=>Or.inr (by rw[LG];exact LH (MX σ) j _),hs⟩;obtain ⟨n,c,s',hr,σ',ax,M',hR,hg,rs,Qj,hk⟩:=h σ _ Jf;have Om:Gh N (NG (BM σ) (HI N tm)) (C5 0 (vs.map (BM σ))) (NG (BM σ) (C5 0 vs++HI N tm)):=by
  constructor
  ·intro j hj
   rw[oD,LH (MX σ),LH (MX σ)];rcases cF j (HI N tm) (C5 0 vs) with ⟨_,e⟩|⟨hn,e⟩
   ·rw[e]
   ·rw[e,rG hj,rE j 0 vs hn]
  ·intro j hj
   rw[LH (MX σ),LH (MX σ)];rcases cF j (HI N tm) (C5 0 vs) with ⟨hn,e⟩|⟨_,e⟩
   ·have:=oC j 0 vs hn
    omega
   ·rw[e]
 obtain ⟨s,r1,r2,r3⟩:=J1 n (by simp [S4,n2]) Om hr;obtain ⟨i1,i2⟩:=pV (s:=s) hR r3.lo n3 Qj;refine ⟨JD rs,s.own,σ',M',HL.intro hL (by simpa using hp) ⟨n,c,s,r1,?_,rfl⟩,?_,?_,hk⟩
 ·rw[i1,va,Vq i2]
 ·rw[<-r2];exact hR.sat
 ·intro j
  have e1:tg tm j=tg ax (N+j):=by rw[LG,LG,<-hg,rD]
  rcases hR.tm (N+j) with e|e
  ·rw[e1,e];rfl
  ·rw[e1,<-e,r3.hi (N+j) O',LH (MX σ),rF,<-LG,e1]
theorem LQ {α:Type} {enc:α->u_} {l:List α} {i:Nat} {vs:u_} {K:o_->Prop} (n:Nat) (e:α) (hn:i=n) (he:vs=enc e) (hz : ∀ x,(enc x).length=vs.length) (hi:n<l.length) (h:K ((l.set n e).map enc)):A8 (l.map enc) i 0 vs K:=by
 subst hn;exact Aeq e he hz hi h
theorem HV {x:Int} {len:Nat} {K:Nat->Nat->Prop} (h:Nat) (hx:x=h) (hl:h<=len) (hk:K 0 h):B6 none (some x) len K:=⟨0,h,rfl,⟨O',O',O'⟩,O',hk⟩
theorem rU {x:Int} {len:Nat} {K:Nat->Nat->Prop} (a:Nat) (hx:x=a) (hl:a<=len) (hk:K a len):B6 (some x) none len K:=⟨a,len,⟨O',O'⟩,rfl,O',hk⟩
end Go.c6
