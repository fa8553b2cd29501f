/-
  Each operation of the model does what the abstract machine says of it (all but calls).
-/
import Derived.Test.YtjelffbnkmbgaaaDoorB1
import Derived.Laws.StructEq
import Derived.ChangeKeysEq
import Derived.Laws.Slices
import Derived.Sort.Grow
import Derived.Sort.Statements
import Derived.StringKeys
set_option linter.unusedSimpArgs false
set_option linter.unusedVariables false
set_option linter.unnecessarySimpa false
namespace Go.Eng
open Go.RowKit
def Eff.ownOf:Eff→Own→Own
 | .val _,o=>o
 | .new s b _,o=>o.put s ((o s).new b)
 | .vir s b _,o=>o.put s ((o s).new b)
 | .tur _ o',_=>o'
 | .tub s _ o',o=>o'.put s (o s)
 | .upd s x,o=>o.put s x
 | .upn s x _,o=>o.put s x
def Eff.valOf:Eff→Own→AV
 | .val v,_=>v
 | .new s _ v,o=>v (o.cnt s)
 | .vir s _ v,o=>v (o.cnt s)
 | .tur v _,_=>v
 | .tub _ v _,_=>v
 | .upd _ _,_ => .tup []
 | .upn _ _ v,_=>v
section
variable {B:Nat} {S:Nat→Prop} {w0:Base} {m:M}
theorem cv_int {k:IntKind} {n:Int} {v:Value} (h:CV B S m (.int k n) v):v = .int k n:=by
 cases h with
 | ca h=>cases h with
  | one h=>cases h with
   | rd h=>cases h;rfl
theorem cv_bool {b:Bool} {v:Value} (h:CV B S m (.bool b) v):v = .bool b:=by
 cases h with
 | ca h=>cases h with
  | one h=>cases h with
   | rd h=>cases h;rfl
theorem cv_agg {cs:List AV} {v:Value} (h:CV B S m (.agg cs) v) : ∃ vs:List Value,v = .agg vs.toArray∧CL B S m cs vs:=by
 cases h with
 | ca h=>cases h with
  | one h=>cases h with
   | rd h=>cases h
  | agg _ vs h=>exact ⟨vs,rfl,h⟩
theorem cv_tup {cs:List AV} {v:Value} (h:CV B S m (.tup cs) v) : ∃ vs:List Value,v = .tuple vs.toArray∧cs.length=vs.length ∧ ∀ (j:Nat) (c:AV) (u:Value),cs[j]? = some c→vs[j]? = some u→CA B S m c u:=by
 cases h with
 | ca h=>cases h with
  | one h=>cases h with
   | rd h=>cases h
 | tup _ vs hl h=>exact ⟨vs,rfl,hl,h⟩
theorem mkInt (k:IntKind) (n:Int):CV B S m (.int k n) (.int k n):= .ca (.one (.rd (.int k n)))
theorem mkBool (b:Bool):CV B S m (.bool b) (.bool b):= .ca (.one (.rd (.bool b)))
theorem mkUndef:CV B S m (.tup []) undef := .tup [] [] rfl (fun j c v h=>by simp at h)
theorem cv_cells {a:AV} {cs:List AV} {v:Value} (h:CV B S m a v) (hc:cellsOf a=some cs):CL B S m cs v.cells.toList:=by
 cases h with
 | any v=>simp [cellsOf]at hc
 | tup=>simp [cellsOf]at hc
 | ca h=>cases h with
  | agg cs' vs h =>
   obtain rfl:cs'=cs:=by simpa [cellsOf] using hc
   simpa [Value.cells] using h
  | fn=>simp [cellsOf]at hc
  | fnb=>simp [cellsOf]at hc
  | one h =>
   have h1:v.cells.toList=[v]:=by
    cases h with
    | rd h=>cases h<;>rfl
    | _=>rfl
   have h2:cs=[a]:=by
    cases h with
    | rd h=>cases h<;>simp [cellsOf]at hc<;>exact hc.symm
    | _=>simp [cellsOf]at hc;exact hc.symm
   rw[h1,h2];refine ⟨rfl,fun j c u hj hu => ?_⟩;cases j with
   | zero=>simp at hj hu;subst hj hu;exact h
   | succ j=>simp at hj
theorem cl_one {cs:List AV} {vs:List Value} (h:CL B S m cs vs) : ∀ v∈vs,v.oneCell'=true:=by
 intro v hv;obtain ⟨j,hj,rfl⟩:=List.getElem_of_mem hv;have hj':j<cs.length:=by rw[h.1];exact hj
 exact (h.2 j cs[j] vs[j] (List.getElem?_eq_getElem hj') (List.getElem?_eq_getElem hj)).one
theorem cl_part {cs:List AV} {vs:List Value} (h:CL B S m cs vs) (off n:Nat):CL B S m ((cs.drop off).take n) ((vs.drop off).take n):=by
 refine ⟨by simp [h.1],fun j c v hj hv => ?_⟩;rw[List.getElem?_take]at hj hv;split at hj
 ·rename_i hlt
  rw[if_pos hlt]at hv;rw[List.getElem?_drop]at hj hv;exact h.2 _ c v hj hv
 ·cases hj
theorem eqVal_cc {v:Value} {a:AV} (h:eqVal v a=true):CC B S m a v:=by
 unfold eqVal at h;split at h
 ·simp only[Bool.and_eq_true,beq_iff_eq]at h
  obtain ⟨rfl,rfl⟩:=h;exact .rd (.int _ _)
 ·obtain rfl:_=_:=by simpa using h
  exact .rd (.bool _)
 ·exact .nil
 ·rename_i s s'
  obtain rfl:s=s':=by
   have h':s.data.toList=s'.data.toList:=by simpa using h
   obtain ⟨⟨l⟩⟩:=s;obtain ⟨⟨l'⟩⟩:=s';simp only at h';rw[h']
  exact .rd (.str _)
 ·exact .rd .nilf
 ·exact .rd .nilm
 ·cases h
theorem eqVals_cl : ∀ {vs:List Value} {cs:List AV},eqVals vs cs=true→CL B S m cs vs
 | [],[],_=>⟨rfl,fun j c v h=>by simp at h⟩
 | v::r,c::l,h=>by
  simp only[eqVals,Bool.and_eq_true]at h;have ih:=eqVals_cl (vs:=r) (cs:=l) h.2;refine ⟨by simp [ih.1],fun j c' v' hj hv => ?_⟩;cases j with
  | zero=>simp at hj hv;subst hj hv;exact eqVal_cc h.1
  | succ j=>exact ih.2 j c' v' (by simpa using hj) (by simpa using hv)
 | [],_::_,h=>by simp [eqVals]at h
 | _::_,[],h=>by simp [eqVals]at h
theorem eqConst_cv {v:Value} {a:AV} (h:eqConst v a=true):CV B S m a v:=by
 unfold eqConst at h;split at h
 ·rename_i cs l
  have:=eqVals_cl (B:=B) (S:=S) (m:=m) h
  exact .ca (by simpa using CA.agg l cs.toList this)
 ·exact .ca (.one (eqVal_cc h))
def Says (B:Nat) (S:Nat→Prop) (m:M) (ρ:Opd→AV) (e:Operand→Value):Prop := ∀ x y,eqOpd x y=true→CV B S m (ρ y) (e x)
theorem says_of {T:Nat→AV} {a:Act} {ρ:Opd→AV} (hρt : ∀ n,ρ (.t n)=T n) (hρc : ∀ v,ρ (.c v)=v) (h : ∀ i,CV B S m (T i) (a.tmps.getD i undef)):Says B S m ρ a.eval:=by
 intro x y hxy;unfold eqOpd at hxy;split at hxy
 ·obtain rfl:_=_:=by simpa using hxy
  rw[hρt];exact h _
 ·rw[hρc]
  exact eqConst_cv hxy
 ·obtain rfl:_=_:=by simpa using hxy
  rw[hρc];exact .ca (.fn _ _ _ [] [] (fun _=>rfl) ⟨rfl,fun j c v h=>by simp at h⟩)
 ·cases hxy
variable {P:Program} {num:Nat→Nat} {o:Oper} {a:Act} {ρ:Opd→AV} {K:Act→World→Prop} {Q:Exit→Act→World→Prop}
theorem wp_of_run {w w':World} {u:Value} (h:(execOp a.eval o).run P w = .ok (.value u) w') (hk:K (a.put o.dst u) w'):o.wp P a w K Q:=by
 unfold Oper.wp;rw[h];exact hk
theorem wp_of_run_skip {w w':World} (h:(execOp a.eval o).run P w = .ok .skip w') (hk:K (a.put o.dst undef) w'):o.wp P a w K Q:=by
 unfold Oper.wp;rw[h];exact hk
def Does (B:Nat) (S:Nat→Prop) (w0:Base) (P:Program) (o:Oper) (a:Act) (m:M) (E:Eff):Prop :=
 ∀ (K:Act→World→Prop) (Q:Exit→Act→World→Prop),(∀ u m',m'.own=E.ownOf m.own→MemOK B S w0 m'→Ext B S m m'→CV B S m' (E.valOf m.own) u→K (a.put o.dst u) m'.w)→o.wp P a m.w K Q
theorem does_val (hm:MemOK B S w0 m) {v:AV} {u:Value} (h:(execOp a.eval o).run P m.w = .ok (.value u) m.w) (hc:CV B S m v u):Does B S w0 P o a m (.val v) :=
 fun K Q hK=>wp_of_run h (hK u m rfl hm (Ext.refl m) hc)
theorem do_mov (hm:MemOK B S w0 m) (hs:Says B S m ρ a.eval) {y:Opd} (h:okOp P num o.op (.mov y)=true):Does B S w0 P o a m (.val (ρ y)):=by
 obtain ⟨x,hx,he⟩:=inv_mov h;refine does_val hm (u:=a.eval x) ?_ (hs x y he);rcases hx with hx|hx<;>simp [execOp,hx]
theorem do_vrow (hm:MemOK B S w0 m) {s z:Nat} (hlo:s<mapLo) (h:okOp P num o.op (.vrow s z)=true):Does B S w0 P o a m (.vir s ⟨z,[]⟩ (fun t => .row s t z 0 0)):=by
 obtain ⟨hx,hz⟩:=inv_vrow h;intro K Q hK;obtain ⟨h1,h2⟩:=vir_ok hm s z hlo;refine wp_of_run (u := .slice none 0 0) (w':=m.w) ?_ (hK _ ⟨newν m s none,m.own.put s ((m.own s).new ⟨z,[]⟩),m.w⟩ rfl h1 h2 ?_)
 ·rcases hx with hx|hx<;>simp [execOp,hx,Act.eval]
 ·refine .ca (.one (.row s (m.own.cnt s) z 0 0 none 0 ?_ (by omega) (Nat.le_refl _) (fun h=>by omega) (fun b hb => ?_) hlo))
  ·show _<Own.cnt _ s
   rw[cnt_new];simp
  ·change Own.get _ s _=some b at hb
   rw[get_new,if_pos ⟨rfl,rfl⟩]at hb;obtain rfl:(⟨z,[]⟩:Blk)=b:=by simpa using hb
   exact ⟨rfl,.inl ⟨rfl,rfl⟩⟩
theorem do_pick (hm:MemOK B S w0 m) (hs:Says B S m ρ a.eval) {c' a' b':Opd} (h:okOp P num o.op (.pick c' a' b')=true) {t:Bool} (hc:ρ c' = .bool t) :
  Does B S w0 P o a m (.val (if t then ρ a' else ρ b')):=by
 obtain ⟨c,x,y,hop,h1,h2,h3⟩:=inv_pick h;have hcv:=cv_bool (hc ▸ hs c c' h1);refine does_val hm (u:=if t then a.eval x else a.eval y) ?_ ?_
 ·cases t<;>simp [execOp,hop,hcv,asBool]
 ·cases t
  ·exact hs y b' h3
  ·exact hs x a' h2
theorem run_intBin (f:BinOp) (t:TypeId) (k k':IntKind) (x y:Int) (v:AV) (h:intBin f k x k' y=some v) (w:World) : ∃ u,(binOp f t (.int k x) (.int k' y)).run P w = .ok u w∧((∃ n,v = .int k n∧u = .int k n) ∨ ∃ b,v = .bool b∧u = .bool b):=by
 cases f<;>simp only[intBin]at h;case shl =>
  split at h
  ·cases h
  ·rename_i hy;simp at h;subst h
   exact ⟨_,by simp [binOp,Op.shift,hy],.inl ⟨_,rfl,rfl⟩⟩
 case shr =>
  split at h
  ·cases h
  ·rename_i hy;simp at h;subst h
   exact ⟨_,by simp [binOp,Op.shift,hy],.inl ⟨_,rfl,rfl⟩⟩
 case quo =>
  split at h
  ·rename_i hy;obtain ⟨rfl,hy⟩:=hy;simp at h;subst h
   exact ⟨_,by simp [binOp,Op.intDiv,hy],.inl ⟨_,rfl,rfl⟩⟩
  ·cases h
 case rem =>
  split at h
  ·rename_i hy;obtain ⟨rfl,hy⟩:=hy;simp at h;subst h
   exact ⟨_,by simp [binOp,Op.intDiv,hy],.inl ⟨_,rfl,rfl⟩⟩
  ·cases h
 case and|or|xor|andNot =>
  all_goals
   split at h
   ·rename_i hk;subst hk;obtain rfl:=Option.some.inj h
    exact ⟨_,by simp only[binOp,ne_eq,not_true_eq_false,if_false];rfl,.inl ⟨_,rfl,rfl⟩⟩
   ·cases h
 case add|sub|mul =>
  all_goals
   split at h
   ·rename_i hk;subst hk;obtain rfl:=Option.some.inj h
    exact ⟨_,by simp [binOp,Op.intArith],.inl ⟨_,rfl,rfl⟩⟩
   ·cases h
 all_goals
  split at h
  ·rename_i hk;subst hk;obtain rfl:=Option.some.inj h
   exact ⟨_,by simp [binOp,Op.intCmp],.inr ⟨_,rfl,rfl⟩⟩
  ·cases h
theorem run_eqGuard (f:BinOp) (t:TypeId) (x y:Operand) (k k':IntKind) (n n':Int) (w:World):(eqGuard f t x y (.int k n) (.int k' n')).run P w = .ok () w:=by
 unfold eqGuard;cases f<;>simp
theorem run_eqGuardB (f:BinOp) (t:TypeId) (x y:Operand) (b b':Bool) (w:World):(eqGuard f t x y (.bool b) (.bool b')).run P w = .ok () w:=by
 unfold eqGuard;cases f<;>simp
theorem do_bin (hm:MemOK B S w0 m) (hs:Says B S m ρ a.eval) {f:BinOp} {x' y':Opd} (h:okOp P num o.op (.bin f x' y')=true) {k k':IntKind} {n n':Int} {v:AV} (hx:ρ x' = .int k n) (hy:ρ y' = .int k' n') (hv:intBin f k n k' n'=some v) :
  Does B S w0 P o a m (.val v):=by
 obtain ⟨t,x,y,u,hop,h1,h2⟩:=inv_bin h;have ex:=cv_int (hx ▸ hs x x' h1);have ey:=cv_int (hy ▸ hs y y' h2);obtain ⟨r,hr,hor⟩:=run_intBin (P:=P) f t k k' n n' v hv m.w;refine does_val hm (u:=r) ?_ ?_
 ·simp [execOp,hop,ex,ey,run_eqGuard,hr]
 ·rcases hor with ⟨q,rfl,rfl⟩|⟨q,rfl,rfl⟩
  ·exact mkInt _ _
  ·exact mkBool _
theorem run_equal_bool (t:TypeId) (b b':Bool) (hu:P.underlying t=some .bool) (w:World):(Op.equal t (.bool b) (.bool b')).run P w = .ok (b == b') w:=by
 have h : ∀ d:Nat,(Op.equalIn (d+1) t (.bool b) (.bool b')).run P w = .ok (b == b') w:=fun d=>by
  unfold Op.equalIn;rw[Sem.run_bind,run_underlying hu];rfl
 exact h 9999
theorem do_beq (hm:MemOK B S w0 m) (hs:Says B S m ρ a.eval) {ne:Bool} {x' y':Opd} (h:okOp P num o.op (.beq ne x' y')=true) {b b':Bool} (hx:ρ x' = .bool b) (hy:ρ y' = .bool b') :
  Does B S w0 P o a m (.val (.bool (if ne then !(b == b') else b == b'))):=by
 obtain ⟨t,x,y,u,hop,hu,h1,h2⟩:=inv_beq h;have ex:=cv_bool (hx ▸ hs x x' h1);have ey:=cv_bool (hy ▸ hs y y' h2);refine does_val hm (u := .bool (if ne then !(b == b') else b == b')) ?_ (mkBool _);cases ne<;>simp [execOp,hop,ex,ey,run_eqGuardB,binOp,run_equal_bool t b b' hu]
theorem do_un (hm:MemOK B S w0 m) (hs:Says B S m ρ a.eval) {f:UnOp} {x':Opd} (h:okOp P num o.op (.un f x')=true) {v:AV} (hv:unA f (ρ x')=some v):Does B S w0 P o a m (.val v):=by
 obtain ⟨t,x,hop,h1⟩:=inv_un h;have hx:=hs x x' h1;unfold unA at hv;split at hv
 ·rename_i k n hk
  have ex:=cv_int (hk ▸ hx);split at hv
  ·obtain rfl:_=v:=by simpa using hv
   exact does_val hm (by simp [execOp,hop,ex,Op.unary,Op.intArith]) (mkInt _ _)
  ·obtain rfl:_=v:=by simpa using hv
   exact does_val hm (by simp only[execOp,hop,ex,Op.unary];rfl) (mkInt _ _)
  ·cases hv
 ·rename_i b hk
  have ex:=cv_bool (hk ▸ hx);split at hv
  ·obtain rfl:_=v:=by simpa using hv
   exact does_val hm (by simp [execOp,hop,ex,Op.unary]) (mkBool _)
  ·cases hv
 ·cases hv
theorem do_conv (hm:MemOK B S w0 m) (hs:Says B S m ρ a.eval) {k:IntKind} {x':Opd} (h:okOp P num o.op (.conv k x')=true) {k':IntKind} {n:Int} (hx:ρ x' = .int k' n):Does B S w0 P o a m (.val (.int k (k.wrap n))):=by
 obtain ⟨s,d,x,ds,hop,hds,hd,h1⟩:=inv_conv h;have ex:=cv_int (hx ▸ hs x x' h1);refine does_val hm (u := .int k (k.wrap n)) ?_ (mkInt _ _);simp [execOp,hop,ex,convert,run_underlying hds,run_underlying hd,Conv.intToInt]
theorem cv_nil {v:Value} (h:CV B S m .nil v):v = .slice none 0 0:=by
 cases h with
 | ca h=>cases h with
  | one h=>cases h with
   | rd h=>cases h
   | nil=>rfl
theorem cv_emp {b:Bool} {v:Value} (h:CV B S m (.con (.bool b)) v) : ∃ ad c,v = .slice ad 0 c∧ad.isNone=b:=by
 cases h with
 | ca h=>cases h with
  | one h=>cases h with
   | rd h=>cases h with
    | emp b a cap h=>exact ⟨a,cap,rfl,h⟩
end
end Go.Eng
namespace Go.Eng
open Go.RowKit
section
variable {B:Nat} {S:Nat→Prop} {w0:Base} {m:M}
variable {P:Program} {num:Nat→Nat} {o:Oper} {a:Act} {ρ:Opd→AV}
theorem cl_get {cs:List AV} {vs:List Value} (h:CL B S m cs vs) {j:Nat} {c:AV} (hj:cs[j]? = some c) : ∃ u,vs[j]? = some u∧CC B S m c u:=by
 have hlt:j<cs.length:=(List.getElem?_eq_some_iff.1 hj).1;have hlt':j<vs.length:=by rw[←h.1];exact hlt
 exact ⟨vs[j],List.getElem?_eq_getElem hlt',h.2 j c _ hj (List.getElem?_eq_getElem hlt')⟩
theorem new_ptr {s:Nat} (hlo:s<mapLo) {b:Blk} {w':World} {g:Nat}:CV B S ⟨newν m s (some g),m.own.put s ((m.own s).new b),w'⟩ (.ptr s (m.own.cnt s) 0 0) (.pointer (some ⟨g,0,none⟩)):=by
 refine .ca (.one (.ptr s (m.own.cnt s) 0 0 ⟨g,0,none⟩ ?_ (fun b' hb'=>⟨g,?_,by simp⟩) hlo))
 ·show _<Own.cnt _ s
  rw[cnt_new];simp
 ·simp [newν]
theorem do_cells (hm:MemOK B S w0 m) (s:Nat) (hlo:s<mapLo) (cs:List AV) (vs:Array Value) (e:TypeId) (hc:CL B S m cs vs.toList) (h:(execOp a.eval o).run P m.w = .ok (.value (.pointer (some ⟨m.w.heap.size,0,none⟩))) (m.w.alloc (.cells vs e))) :
  Does B S w0 P o a m (.new s ⟨cs.length,[cs]⟩ (fun t => .ptr s t 0 0)):=by
 intro K Q hK;obtain ⟨h1,h2⟩:=alloc_ok hm s hlo ⟨cs.length,[cs]⟩ vs e (by simp) (fun i cs' hi j c hj=>by
  cases i with
  | zero =>
   obtain rfl:cs=cs':=by simpa using hi
   obtain ⟨u,hu,hcc⟩:=cl_get hc hj;exact ⟨u,by simpa using hu,hcc⟩
  | succ i=>simp at hi)
 exact wp_of_run h (hK _ ⟨newν m s (some m.w.heap.size),m.own.put s ((m.own s).new ⟨cs.length,[cs]⟩),m.w.alloc (.cells vs e)⟩ rfl h1 h2 (new_ptr hlo))
theorem do_box (hm:MemOK B S w0 m) (hs:Says B S m ρ a.eval) {s:Nat} (hlo:s<mapLo) {x':Opd} (h:okOp P num o.op (.box s x')=true) {cs:List AV} (hc:cellsOf (ρ x')=some cs) :
  Does B S w0 P o a m (.new s ⟨cs.length,[cs]⟩ (fun t => .ptr s t 0 0)):=by
 obtain ⟨t,x,hop,h1⟩:=inv_box h;exact do_cells hm s hlo cs (a.eval x).cells t (cv_cells (hs x x' h1) hc) (by simp [execOp,hop,Instr.box,newVar,newRow])
theorem do_alloc (hm:MemOK B S w0 m) {s:Nat} (hlo:s<mapLo) {z:List AV} (h:okOp P num o.op (.alloc s z)=true):Does B S w0 P o a m (.new s ⟨z.length,[z]⟩ (fun t => .ptr s t 0 0)):=by
 obtain ⟨t,hop,h1⟩:=inv_alloc h;obtain ⟨i,v,hi,hz,he⟩:=zeroIs_inv h1;exact do_cells hm s hlo z v.cells t (eqVals_cl he) (by simp [execOp,hop,Instr.alloc,zeroValue,typeInfo,hi,hz,newVar,newRow])
theorem fold_splice (off:Nat) : ∀ (vs:List Value) (k:Nat) (cells:Array Value),off+k+vs.length≤cells.size →
  ((vs.zipIdx k).foldl (fun cs (x:Value × Nat)=>cs.setIfInBounds (off+x.2) x.1) cells).toList=cells.toList.take (off+k)++vs++cells.toList.drop (off+k+vs.length)
 | [],k,cells,_=>by simp
 | v::r,k,cells,h=>by
  simp only[List.length_cons]at h;rw[List.zipIdx_cons,List.foldl_cons,fold_splice off r (k+1) _ (by simp;omega)];simp only[Array.toList_setIfInBounds,List.length_cons];apply List.ext_getElem?;intro q;have e1:(cells.toList.set (off+k) v).drop (off+(k+1)+r.length)=cells.toList.drop (off+k+(r.length+1)):=by
   rw[show off+(k+1)+r.length=off+k+(r.length+1) by omega];exact List.drop_set_of_lt (by omega)
  have e2:(cells.toList.set (off+k) v).take (off+(k+1))=cells.toList.take (off+k)++[v]:=by
   rw[show off+(k+1)=off+k+1 by omega,List.take_succ_eq_append_getElem (by simp;omega)];simp [List.take_set_of_le]
  rw[e1,e2];simp
theorem fill_ok (place:Nat→Option (Nat × Nat)) (hs:Says B S m ρ a.eval) : ∀ (ps:List (Nat × Operand)) (ps':List (Nat × Nat × Opd)) (cs cs':List AV) (vs:Array Value),partsAre place ps ps'=true→CL B S m cs vs.toList →
  fill cs (ps'.map fun p=>(p.1,p.2.1,ρ p.2.2))=some cs' → ∃ vs',Instr.fill place vs (ps.map fun p=>(p.1,a.eval p.2))=some vs'∧CL B S m cs' vs'.toList
 | [],[],cs,cs',vs,_,hc,hf=>by
  simp [fill]at hf;subst hf;exact ⟨vs,rfl,hc⟩
 | (i,x)::r,(off,n,y)::l,cs,cs',vs,hp,hc,hf=>by
  simp only[partsAre,Bool.and_eq_true,beq_iff_eq]at hp;obtain ⟨⟨hp1,hp2⟩,hp3⟩:=hp;simp only[List.map_cons,fill]at hf;cases hcell:cellsOf (ρ y) with
  | none=>simp [hcell]at hf
  | some us =>
   simp only[hcell]at hf;split at hf
   ·rename_i hn
    obtain ⟨hn1,hn2⟩:=hn;have hcu:=cv_cells (hs x y hp2) hcell;have hsz:(a.eval x).cells.size=n:=by rw[←hn1,hcu.1];simp
    have hoff:off+(a.eval x).cells.size≤vs.size:=by rw[hsz];have:=hc.1;simp at this;omega
    have hfold:=fold_splice off (a.eval x).cells.toList 0 vs (by simpa using hoff);have hstep:Instr.fill place vs (((i,x)::r).map fun p=>(p.1,a.eval p.2))=Instr.fill place ((a.eval x).cells.zipIdx.foldl (fun cs (c,j)=>cs.setIfInBounds (off+j) c) vs) (r.map fun p=>(p.1,a.eval p.2)):=by
     simp only[List.map_cons,Instr.fill,hp1];rw[if_neg (by simp;omega)]
    rw[hstep];refine fill_ok place hs r l (splice cs off us) cs' _ hp3 ?_ hf;have hz:((a.eval x).cells.zipIdx.foldl (fun cs (c,j)=>cs.setIfInBounds (off+j) c) vs).toList=vs.toList.take off++(a.eval x).cells.toList++vs.toList.drop (off+(a.eval x).cells.toList.length):=by
     rw[←Array.foldl_toList];simpa using hfold
    rw[hz];unfold splice;refine ⟨?_,fun j c v hj hv => ?_⟩
    ·have:=hc.1;have:=hcu.1;simp at *;omega
    ·have hl1:=hc.1
     have hl2:=hcu.1;simp only[Array.length_toList]at hl1 hl2;rw[List.getElem?_append]at hj hv;simp only[List.length_append,List.length_take,Array.length_toList]at hj hv;rw[List.getElem?_append]at hj hv;simp only[List.length_take,Array.length_toList]at hj hv;have hm1:min off cs.length=off:=by omega
     have hm2:min off vs.size=off:=by omega
     rw[hm1]at hj;rw[hm2]at hv;rw[←hl2]at hv;split at hj
     ·rename_i h1
      rw[if_pos h1]at hv;split at hj
      ·rename_i h2
       rw[if_pos h2]at hv;rw[List.getElem?_take]at hj hv;rw[if_pos h2]at hj hv;exact hc.2 j c v hj hv
      ·rename_i h2
       rw[if_neg h2]at hv;exact hcu.2 _ c v hj hv
     ·rename_i h1
      rw[if_neg h1]at hv;rw[List.getElem?_drop]at hj hv;exact hc.2 _ c v hj hv
   ·cases hf
 | [],_::_,_,_,_,hp,_,_=>by simp [partsAre]at hp
 | _::_,[],_,_,_,hp,_,_=>by simp [partsAre]at hp
theorem do_build (hm:MemOK B S w0 m) (hs:Says B S m ρ a.eval) {z:List AV} {ps':List (Nat × Nat × Opd)} (h:okOp P num o.op (.build z ps')=true) {cs:List AV} (hf:fill z (ps'.map fun p=>(p.1,p.2.1,ρ p.2.2))=some cs) :
  Does B S w0 P o a m (.val (.agg cs)):=by
 obtain ⟨t,ps,hop,h1,h2⟩:=inv_build h;obtain ⟨i,v,hi,hz,he⟩:=zeroIs_inv h1;have key : ∃ vs',P.built t (ps.map fun p=>(p.1,a.eval p.2)).toList=some vs'∧CL B S m cs vs'.toList:=by
  unfold buildIs at h2;unfold Program.built;split at h2
  ·rename_i fs hu
   split at h2
   ·rename_i places hp
    obtain ⟨vs',h3,h4⟩:=fill_ok _ hs ps.toList ps' z cs v.cells h2 (eqVals_cl he) hf;refine ⟨vs',?_,h4⟩;simp only[hi,hu,hz,hp,Array.toList_map];exact h3
   ·cases h2
  ·rename_i n e hu
   split at h2
   ·rename_i ie hie
    obtain ⟨vs',h3,h4⟩:=fill_ok _ hs ps.toList ps' z cs v.cells h2 (eqVals_cl he) hf;refine ⟨vs',?_,h4⟩;simp only[hi,hu,hz,hie,Array.toList_map];exact h3
   ·cases h2
  ·cases h2
 obtain ⟨vs',h3,h4⟩:=key;refine does_val hm (u := .agg vs') ?_ (.ca (by simpa using CA.agg cs vs'.toList h4));simp only[execOp,hop,Sem.run_bind];rw[run_build m.w t _ vs' h3];rfl
theorem fill_seq (size:Nat) (hs:Says B S m ρ a.eval) : ∀ (ps:List (Nat × Operand)) (ps':List Opd) (k:Nat) (es:List (List AV)) (vs:Array Value),elemsAre k ps ps'=true→ps'.mapM (fun x=>cellsOf (ρ x))=some es→(∀ e∈es,e.length=size)→vs.size=(k+ps'.length)*size →
  ∃ vs',Instr.fill (fun i=>some (i*size,size)) vs (ps.map fun p=>(p.1,a.eval p.2))=some vs'∧vs'.size=vs.size∧(∀ q,q<k*size→vs'[q]? = vs[q]?) ∧ ∀ i cs,es[i]? = some cs → ∀ j c,cs[j]? = some c → ∃ u,vs'[(k+i)*size+j]? = some u∧CC B S m c u
 | [],[],k,es,vs,_,hes,_,_=>by
  simp at hes;subst hes;exact ⟨vs,rfl,rfl,fun _ _=>rfl,fun i cs hi=>by simp at hi⟩
 | (i,x)::r,y::l,k,es,vs,he,hes,hz,hv=>by
  simp only[elemsAre,Bool.and_eq_true,beq_iff_eq]at he;obtain ⟨⟨rfl,h1⟩,h2⟩:=he;simp only[List.mapM_cons,Option.bind_eq_bind,Option.pure_def]at hes;cases hcell:cellsOf (ρ y) with
  | none=>simp [hcell]at hes
  | some us =>
   cases hrest:l.mapM (fun x=>cellsOf (ρ x)) with
   | none=>simp [hcell,hrest]at hes
   | some es' =>
    simp [hcell,hrest]at hes;subst hes;have hcu:=cv_cells (hs x y h1) hcell;have hus:us.length=size:=hz us (by simp);have hsz:(a.eval x).cells.size=size:=by rw[←hus,hcu.1];simp
    simp only[List.length_cons]at hv;have hle:i*size+size≤vs.size:=by rw[hv,show i+(l.length+1)=i+1+l.length by omega,Nat.add_mul,Nat.add_mul];omega
    have hfold:=fold_splice (i*size) (a.eval x).cells.toList 0 vs (by simp [hsz];omega);generalize hvs1:(a.eval x).cells.zipIdx.foldl (fun cs (c,j)=>cs.setIfInBounds (i*size+j) c) vs=vs1;have hz1:vs1.toList=vs.toList.take (i*size)++(a.eval x).cells.toList++vs.toList.drop (i*size+size):=by
     rw[←hvs1,←Array.foldl_toList];simpa [hsz] using hfold
    have hs1:vs1.size=vs.size:=by
     have:=congrArg List.length hz1
     simp [hsz]at this;omega
    obtain ⟨vs',h3,h4,h5,h6⟩:=fill_seq size hs r l (i+1) es' vs1 h2 hrest (fun e he=>hz e (by simp [he])) (by rw[hs1,hv];congr 1;omega);refine ⟨vs',?_,h4.trans hs1,fun q hq => ?_,fun i' cs hi' j c hj => ?_⟩
    ·simp only[List.map_cons,Instr.fill]
     rw[if_neg (by simp [hsz];omega),hvs1];exact h3
    ·rw[h5 q (by rw[Nat.add_mul];omega)]
     have:vs1.toList[q]? = vs.toList[q]? := by
      rw[hz1,List.append_assoc,List.getElem?_append_left (by simp;omega),List.getElem?_take,if_pos hq]
     simpa using this
    ·cases i' with
     | zero =>
      obtain rfl:us=cs:=by simpa using hi'
      obtain ⟨u,hu,hcc⟩:=cl_get hcu hj;have hjl:j<size:=by rw[←hus];exact (List.getElem?_eq_some_iff.1 hj).1
      refine ⟨u,?_,hcc⟩;rw[Nat.add_zero,h5 _ (by rw[Nat.add_mul];omega)];have:vs1.toList[i*size+j]? = some u:=by
       rw[hz1,List.append_assoc,List.getElem?_append_right (by simp;omega)];simp only[List.length_take,Array.length_toList,show min (i*size) vs.size=i*size by omega,show i*size+j-i*size=j by omega];rw[List.getElem?_append_left (by simp [hsz];omega)];exact hu
      simpa using this
     | succ i' =>
      obtain ⟨u,hu,hcc⟩:=h6 i' cs (by simpa using hi') j c hj;exact ⟨u,by rw[show i+(i'+1)=i+1+i' by omega];exact hu,hcc⟩
 | [],_::_,_,_,_,he,_,_,_=>by simp [elemsAre]at he
 | _::_,[],_,_,_,he,_,_,_=>by simp [elemsAre]at he
theorem new_row {s z n cap:Nat} (hlo:s<mapLo) {es:List (List AV)} {w':World} {g:Nat} {arr:Array Value} {e:TypeId} (hz:0<z) (hn:n≤cap) (hg:w'.heap[g]? = some (.cells arr e (0,0))) (hc:cap*z≤arr.size) :
  CV B S ⟨newν m s (some g),m.own.put s ((m.own s).new ⟨z,es⟩),w'⟩ (.row s (m.own.cnt s) z 0 n) (.slice (some ⟨g,0,none⟩) n cap):=by
 refine .ca (.one (.row s (m.own.cnt s) z 0 n _ cap ?_ hz hn (fun _=>rfl) (fun b' hb'=>⟨?_,.inr ⟨g,arr,e,?_,by simp,hg,by simpa using hc⟩⟩) hlo))
 ·show _<Own.cnt _ s
  rw[cnt_new];simp
 ·change Own.get _ s _=some b' at hb'
  rw[get_new,if_pos ⟨rfl,rfl⟩]at hb';obtain rfl:(⟨z,es⟩:Blk)=b':=by simpa using hb'
  rfl
 ·simp [newν]
theorem do_row (hm:MemOK B S w0 m) (s z n cap:Nat) (hlo:s<mapLo) (es:List (List AV)) (vs:Array Value) (e:TypeId) (hz0:0<z) (hn:n≤cap) (hsz:cap*z≤vs.size) (hz : ∀ x∈es,x.length=z)
  (hc : ∀ i cs,es[i]? = some cs → ∀ j c,cs[j]? = some c → ∃ u,vs[i*z+j]? = some u∧CC B S m c u)
  (h:(execOp a.eval o).run P m.w = .ok (.value (.slice (some ⟨m.w.heap.size,0,none⟩) n cap)) (m.w.alloc (.cells vs e))) :
  Does B S w0 P o a m (.new s ⟨z,es⟩ (fun t => .row s t z 0 n)):=by
 intro K Q hK;obtain ⟨h1,h2⟩:=alloc_ok hm s hlo ⟨z,es⟩ vs e hz hc;exact wp_of_run h (hK _ ⟨newν m s (some m.w.heap.size),m.own.put s ((m.own s).new ⟨z,es⟩),m.w.alloc (.cells vs e)⟩ rfl h1 h2 (new_row hlo hz0 hn (heap_alloc_new _ _) hsz))
theorem do_bslice (hm:MemOK B S w0 m) (hs:Says B S m ρ a.eval) {s esz:Nat} (hlo:s<mapLo) {ps':List Opd} (h:okOp P num o.op (.bslice s esz ps')=true) {es:List (List AV)} (hes:ps'.mapM (fun x=>cellsOf (ρ x))=some es) (hz : ∀ e∈es,e.length=esz) :
  Does B S w0 P o a m (.new s ⟨esz,es⟩ (fun t => .row s t esz 0 es.length)):=by
 obtain ⟨t,n,ps,e,i,hop,hu,hi,hsz,h0,hn,hsmall,hel,hzero⟩:=inv_bslice h;have hlen:es.length=n:=by
  rw[hn];clear h hel hzero hn;induction ps' generalizing es with
  | nil=>simp at hes;subst hes;rfl
  | cons y l ih =>
   simp only[List.mapM_cons,Option.bind_eq_bind,Option.pure_def]at hes;cases hcell:cellsOf (ρ y) with
   | none=>simp [hcell]at hes
   | some us =>
    cases hrest:l.mapM (fun x=>cellsOf (ρ x)) with
    | none=>simp [hcell,hrest]at hes
    | some es' =>
     simp [hcell,hrest]at hes;subst hes;simp [ih hrest (fun e he=>hz e (by simp [he]))]
 obtain ⟨zc,hzc⟩ : ∃ zc:Array Value,(n*esz=0∧zc = #[])∨(¬ n*esz=0 ∧ ∃ z,i.zero=some z∧zc=z.cells):=by
  by_cases hne:n*esz=0
  ·exact ⟨#[],.inl ⟨hne,rfl⟩⟩
  ·rcases hzero with h0'|⟨z,hz1,hz2⟩
   ·simp [h0']at hne
   ·exact ⟨z.cells,.inr ⟨hne,z,hz1,rfl⟩⟩
 have hzsz:((Array.range (n*esz)).map (zc[· % zc.size]!)).size=n*esz:=by simp
 obtain ⟨vs',h3,h4,_,h6⟩:=fill_seq esz hs ps.toList ps' 0 es _ hel hes hz (by rw[hzsz,hn];simp);have hrun:(execOp a.eval o).run P m.w = .ok (.value (.slice (some ⟨m.w.heap.size,0,none⟩) n n)) (m.w.alloc (.cells vs' e)):=by
  simp only[execOp,hop,Instr.buildSlice,Sem.run_bind,run_underlying hu,Result.andThen_ok,sizeOf,typeInfo,run_program,hi,Sem.run_pure,hsz];simp only[show ¬ (n*esz>2^24) from by omega,if_false,Sem.run_bind,Sem.run_pure,Result.andThen_ok];rcases hzc with ⟨h0',rfl⟩|⟨h0',z,hz1,rfl⟩
  ·simp only[h0',if_true,Sem.run_bind,Sem.run_pure,Result.andThen_ok,Array.toList_map]
   rw[h0']at h3;rw[h3];rfl
  ·simp only[h0',if_false,Sem.run_bind,Sem.run_pure,Result.andThen_ok,Array.toList_map,zeroValue,typeInfo,run_program,hi,hz1]
   rw[h3];rfl
 rw[hlen];exact do_row hm s esz n n hlo es vs' e (Nat.pos_of_ne_zero h0) (Nat.le_refl _) (by rw[h4,hzsz];exact Nat.le_refl _) hz (fun i cs hi' j c hj=>by simpa using h6 i cs hi' j c hj) hrun
end
end Go.Eng

namespace Go.Eng
open Go.RowKit
section
variable {B:Nat} {S:Nat→Prop} {w0:Base} {m:M}
variable {P:Program} {num:Nat→Nat} {o:Oper} {a:Act} {ρ:Opd→AV}
theorem cv_cc {x:AV} {v:Value} (h:CV B S m x v) (h1:x ≠ .any) (h2 : ∀ cs,x ≠ .agg cs) (h3 : ∀ cs,x ≠ .tup cs) (h4 : ∀ p f g cs,x ≠ .fn p f g cs:=by intros;simp):CC B S m x v:=by
 cases h with
 | any=>exact absurd rfl h1
 | tup as=>exact absurd rfl (h3 as)
 | ca h=>cases h with
  | one h=>exact h
  | agg cs=>exact absurd rfl (h2 cs)
  | fn p f g cs=>exact absurd rfl (h4 p f g cs)
  | fnb f g cs=>exact absurd rfl (h4 true f g cs)
theorem cv_ptr {s t i j:Nat} {v:Value} (h:CV B S m (.ptr s t i j) v) : ∃ ad,v = .pointer (some ad)∧t<m.own.cnt s ∧ ∀ b,m.own.get s t=some b → ∃ g,m.ν s t=some g∧ad=⟨g,i*b.esz+j,none⟩:=by
 cases cv_cc h (by simp) (by simp) (by simp) with
 | rd h=>cases h
 | ptr s t i j ad ht h'=>exact ⟨ad,rfl,ht,h'⟩
theorem cv_dptr {cs:List AV} {v:Value} (h:CV B S m (.dptr cs) v) : ∃ (b o:Nat) (u:Nat→Value) (l:Bool),v = .pointer (some ⟨b,o,none⟩)∧(cs≠[]→safe B S m l b)∧(∀ j c,cs[j]? = some c→m.w.cell? ⟨b,o+j,none⟩=some (u j))∧(∀ j c,cs[j]? = some c→Rd m.w (safe B S m) c (u j)):=by
 cases cv_cc h (by simp) (by simp) (by simp) with
 | rd h=>cases h
 | dptr _ b o u l h1 h2 h3=>exact ⟨b,o,u,l,rfl,h1,h2,h3⟩
theorem cv_row {s t z off len:Nat} {v:Value} (h:CV B S m (.row s t z off len) v) : ∃ (ad:Option Addr) (cap:Nat),v = .slice ad len cap∧t<m.own.cnt s∧0<z∧len≤cap∧(0<len→ad.isSome=true) ∧
  ∀ b,m.own.get s t=some b→b.esz=z∧((len=0∧cap=0) ∨ ∃ g arr e,m.ν s t=some g∧ad=some ⟨g,off*z,none⟩∧m.w.heap[g]? = some (.cells arr e (0,0))∧(off+cap)*z≤arr.size):=by
 cases cv_cc h (by simp) (by simp) (by simp) with
 | rd h=>cases h
 | row s t z off len ad cap ht hz0 hlc ha h'=>exact ⟨ad,cap,rfl,ht,hz0,hlc,ha,h'⟩
theorem cv_sl {l:Bool} {es:List (List AV)} {v:Value} (h:CV B S m (.sl l es) v):Rd m.w (safe B S m) (.sl l es) v:=by
 cases cv_cc h (by simp) (by simp) (by simp) with
 | rd h=>exact h
theorem cv_ptr_lo {s t i j:Nat} {v:Value} (h:CV B S m (.ptr s t i j) v):s<mapLo:=by
 cases h with
 | ca h=>cases h with
  | one h=>cases h with
   | rd h=>cases h
   | ptr _ _ _ _ _ _ _ hs=>exact hs
theorem cv_row_lo {s t z off len:Nat} {v:Value} (h:CV B S m (.row s t z off len) v):s<mapLo:=by
 cases h with
 | ca h=>cases h with
  | one h=>cases h with
   | rd h=>cases h
   | row _ _ _ _ _ _ _ _ _ _ _ _ hs=>exact hs
theorem do_nck (hm:MemOK B S w0 m) (hs:Says B S m ρ a.eval) {x':Opd} (h:okOp P num o.op (.nck x')=true) {s t i j:Nat} (hx:ρ x' = .ptr s t i j):Does B S w0 P o a m (.val (.ptr s t i j)):=by
 obtain ⟨x,hop,h1⟩:=inv_nck h;have hc:=hx ▸ hs x x' h1;obtain ⟨ad,hv,_,_⟩:=cv_ptr hc;refine does_val hm (u := .pointer (some ad)) ?_ (hv ▸ hc);simp [execOp,hop,hv]
theorem do_fadr_ptr (hm:MemOK B S w0 m) (hs:Says B S m ρ a.eval) {x':Opd} {off:Nat} (h:okOp P num o.op (.fadr x' off)=true) {s t i j:Nat} (hx:ρ x' = .ptr s t i j):Does B S w0 P o a m (.val (.ptr s t i (j+off))):=by
 obtain ⟨ty,x,f,fs,fd,inf,hop,h1,hu,hf,ho,hi,hsz⟩:=inv_fadr h;obtain ⟨ad,hv,ht,hb⟩:=cv_ptr (hx ▸ hs x x' h1);refine does_val hm (u := .pointer (some (ad.add off))) ?_ (.ca (.one (.ptr s t i (j+off) _ ht (fun b hb' => ?_) (cv_ptr_lo (hx ▸ hs x x' h1)))))
 ·simp [execOp,hop,hv,Instr.fieldAt,run_underlying hu,hf,Instr.sureAddr,fieldPlace,sizeOf,typeInfo,hi,hsz,ho]
 ·obtain ⟨g,hg,rfl⟩:=hb b hb'
  exact ⟨g,hg,by rw[add_none];simp;omega⟩
theorem do_fadr_dptr (hm:MemOK B S w0 m) (hs:Says B S m ρ a.eval) {x':Opd} {off:Nat} (h:okOp P num o.op (.fadr x' off)=true) {cs:List AV} (hx:ρ x' = .dptr cs):Does B S w0 P o a m (.val (.dptr (cs.drop off))):=by
 obtain ⟨ty,x,f,fs,fd,inf,hop,h1,hu,hf,ho,hi,hsz⟩:=inv_fadr h;obtain ⟨b,ob,u,l,hv,hR,hc,hr⟩:=cv_dptr (hx ▸ hs x x' h1);refine does_val hm (u := .pointer (some ⟨b,ob+off,none⟩)) ?_ (.ca (.one (.dptr _ b (ob+off) (fun j=>u (off+j)) l (fun hne=>hR (fun e=>hne (by simp [e]))) (fun j c hj => ?_) (fun j c hj => ?_))))
 ·simp [execOp,hop,hv,Instr.fieldAt,run_underlying hu,hf,Instr.sureAddr,fieldPlace,sizeOf,typeInfo,hi,hsz,ho,add_none]
 ·rw[List.getElem?_drop]at hj
  rw[Nat.add_assoc];exact hc _ c hj
 ·rw[List.getElem?_drop]at hj
  exact hr _ c hj
theorem ofCells_ok {agg:Bool} {cs:List AV} {v:AV} (h:ofCells agg cs=some v) {vs:List Value} (hc:CL B S m cs vs):CV B S m v (if agg then .agg vs.toArray else vs.getD 0 undef)∧(agg=false→vs.length=1):=by
 unfold ofCells at h;cases agg with
 | true =>
  obtain rfl:AV.agg cs=v:=by simpa using h
  exact ⟨.ca (.agg cs vs hc),by simp⟩
 | false =>
  simp only[Bool.false_eq_true,if_false]at h;split at h
  ·rename_i c
   obtain rfl:c=v:=by simpa using h
   obtain ⟨u,hu,hcc⟩:=cl_get hc (j:=0) (c:=c) rfl;refine ⟨?_,fun _=>by rw[←hc.1];rfl⟩;simp only[Bool.false_eq_true,if_false,List.getD,hu,Option.getD_some];exact .ca (.one hcc)
  ·cases h
theorem run_part (t:TypeId) (agg:Bool) (inf:TypeInfo) (hagg : ∀ w,(isAgg t).run P w = .ok agg w) (hi:P.info? t=some inf) (vs:List Value) (off n:Nat) (hn:inf.size=n) (hle:off+n≤vs.length) (h1:agg=false→n=1) (w:World) :
  (Go.part t vs.toArray off).run P w = .ok (if agg then .agg ((vs.drop off).take n).toArray else ((vs.drop off).take n).getD 0 undef) w:=by
 unfold Go.part;rw[Sem.run_bind,hagg w];cases agg with
 | true=>simp [sizeOf,typeInfo,hi,hn,List.extract_eq_take_drop]
 | false =>
  have hlt:off<vs.length:=by have:=h1 rfl;omega
  simp [hlt,h1 rfl]
theorem do_fld (hm:MemOK B S w0 m) (hs:Says B S m ρ a.eval) {x':Opd} {off n:Nat} {agg:Bool} (h:okOp P num o.op (.fld x' off n agg)=true) {cs ds:List AV} {v:AV} (hx:ρ x' = .agg cs) (hp:part cs off n=some ds) (hv:ofCells agg ds=some v) :
  Does B S w0 P o a m (.val v):=by
 obtain ⟨ty,x,f,fs,fd,inf,hop,h1,hu,hf,ho,hi,hsz,hagg,h0⟩:=inv_fld h;obtain ⟨vs,hev,hcl⟩:=cv_agg (hx ▸ hs x x' h1);unfold Eng.part at hp;split at hp
 ·rename_i hle
  obtain rfl:(cs.drop off).take n=ds:=by simpa using hp
  obtain ⟨hcv,hone⟩:=ofCells_ok hv (cl_part hcl off n);have hl:=hcl.1;have h1':agg=false→n=1:=fun e=>by have:=hone e;simp at this;omega
  refine does_val hm ?_ hcv;simp only[execOp,hop,Sem.run_bind,Instr.field,run_underlying hu,Result.andThen_ok,hf,hev,asAgg,Sem.run_pure,ho];rw[run_part fd.type agg inf hagg hi vs off n hsz (by omega) h1'];rfl
 ·cases hp
theorem do_iadr_arr (hm:MemOK B S w0 m) (hs:Says B S m ρ a.eval) {len esz:Nat} {x' i':Opd} (h:okOp P num o.op (.iadr (some len) esz x' i')=true) {k:IntKind} {n:Int} {s t i0 j:Nat} (hi':ρ i' = .int k n) (hx:ρ x' = .ptr s t i0 j) (h0:0≤n) (hn:n<len) :
  Does B S w0 P o a m (.val (.ptr s t i0 (j+n.toNat*esz))):=by
 obtain ⟨ty,x,i,e,inf,hop,h1,h2,hi,hsz,hor⟩:=inv_iadr h;rcases hor with ⟨len',hl,hu,hlt⟩|⟨hl,_⟩
 ·obtain rfl:len=len':=by simpa using hl
  obtain ⟨ad,hv,ht,hb⟩:=cv_ptr (hx ▸ hs x x' h1);have hiv:=cv_int (hi' ▸ hs i i' h2);refine does_val hm (u := .pointer (some (ad.add (n.toNat*esz)))) ?_ (.ca (.one (.ptr s t i0 (j+n.toNat*esz) _ ht (fun b hb' => ?_) (cv_ptr_lo (hx ▸ hs x x' h1)))))
  ·simp [execOp,hop,hv,hiv,Instr.indexAt,asIntOf,run_underlying hu,Instr.sureAddr,sizeOf,typeInfo,hi,hsz,h0,hn]
  ·obtain ⟨g,hg,rfl⟩:=hb b hb'
   exact ⟨g,hg,by rw[add_none];simp;omega⟩
 ·cases hl
theorem do_iadr_darr (hm:MemOK B S w0 m) (hs:Says B S m ρ a.eval) {len esz:Nat} {x' i':Opd} (h:okOp P num o.op (.iadr (some len) esz x' i')=true) {k:IntKind} {n:Int} {cs:List AV} (hi':ρ i' = .int k n) (hx:ρ x' = .dptr cs) (h0:0≤n) (hn:n<len) :
  Does B S w0 P o a m (.val (.dptr (cs.drop (n.toNat*esz)))):=by
 obtain ⟨ty,x,i,e,inf,hop,h1,h2,hi,hsz,hor⟩:=inv_iadr h;rcases hor with ⟨len',hl,hu,hlt⟩|⟨hl,_⟩
 ·obtain rfl:len=len':=by simpa using hl
  obtain ⟨b,ob,u,l,hv,hR,hc,hr⟩:=cv_dptr (hx ▸ hs x x' h1);have hiv:=cv_int (hi' ▸ hs i i' h2);refine does_val hm (u := .pointer (some ⟨b,ob+n.toNat*esz,none⟩)) ?_ (.ca (.one (.dptr _ b (ob+n.toNat*esz) (fun j=>u (n.toNat*esz+j)) l (fun hne=>hR (fun e=>hne (by simp [e]))) (fun j c hj => ?_) (fun j c hj => ?_))))
  ·simp [execOp,hop,hv,hiv,Instr.indexAt,asIntOf,run_underlying hu,Instr.sureAddr,sizeOf,typeInfo,hi,hsz,h0,hn,add_none]
  ·rw[List.getElem?_drop]at hj
   rw[Nat.add_assoc];exact hc _ c hj
  ·rw[List.getElem?_drop]at hj
   exact hr _ c hj
 ·cases hl
theorem run_iadr (ty e:TypeId) (inf:TypeInfo) (hu:P.underlying ty=some (.slice e)) (hi:P.info? e=some inf) (ad:Addr) (len cap:Nat) (k:IntKind) (n:Int) (h0:0≤n) (hn:n<len) (w:World) :
  (Instr.indexAt ty (.slice (some ad) len cap) (.int k n)).run P w = .ok (.pointer (some (ad.add (n.toNat*inf.size)))) w:=by
 simp [Instr.indexAt,asIntOf,run_underlying hu,sizeOf,typeInfo,hi,h0,hn]
theorem do_iadr_row (hm:MemOK B S w0 m) (hs:Says B S m ρ a.eval) {esz:Nat} {x' i':Opd} (h:okOp P num o.op (.iadr none esz x' i')=true) {k:IntKind} {n:Int} {s t z off len:Nat} (hi':ρ i' = .int k n) (hx:ρ x' = .row s t z off len) (h0:0≤n) (hn:n<len) (hz:z=esz) :
  Does B S w0 P o a m (.val (.ptr s t (off+n.toNat) 0)):=by
 obtain ⟨ty,x,i,e,inf,hop,h1,h2,hi,hsz,hor⟩:=inv_iadr h;rcases hor with ⟨_,hl,_⟩|⟨_,hu,_⟩
 ·cases hl
 ·obtain ⟨ad,cap,hv,ht,hz0,hlc,ha,hb⟩:=cv_row (hx ▸ hs x x' h1)
  have hiv:=cv_int (hi' ▸ hs i i' h2);obtain ⟨ad',rfl⟩:=Option.isSome_iff_exists.1 (ha (by omega));refine does_val hm (u := .pointer (some (ad'.add (n.toNat*esz)))) ?_ (.ca (.one (.ptr s t (off+n.toNat) 0 _ ht (fun b hb' => ?_) (cv_row_lo (hx ▸ hs x x' h1)))))
  ·simp only[execOp,hop,hv,hiv,Sem.run_bind]
   rw[run_iadr ty e inf hu hi ad' len cap k n h0 hn,hsz];rfl
  ·obtain ⟨hbz,hor⟩:=hb b hb'
   rcases hor with ⟨hl0,_⟩|⟨g,arr,e',hg,hae,_,_⟩
   ·omega
   ·obtain rfl:ad'=⟨g,off*z,none⟩:=by simpa using hae
    exact ⟨g,hg,by rw[add_none,hbz,←hz,Nat.add_mul];rfl⟩
theorem do_iadr_sl (hm:MemOK B S w0 m) (hs:Says B S m ρ a.eval) {esz:Nat} {x' i':Opd} (h:okOp P num o.op (.iadr none esz x' i')=true) {k:IntKind} {n:Int} {l:Bool} {es:List (List AV)} {cs:List AV} (hi':ρ i' = .int k n) (hx:ρ x' = .sl l es) (h0:0≤n) (hn:es[n.toNat]? = some cs) (hz:cs.length=esz) :
  Does B S w0 P o a m (.val (.dptr cs)):=by
 obtain ⟨ty,x,i,e,inf,hop,h1,h2,hi,hsz,hor⟩:=inv_iadr h;rcases hor with ⟨_,hl,_⟩|⟨_,hu,_⟩
 ·cases hl
 ·have hrd:=cv_sl (hx ▸ hs x x' h1)
  have hiv:=cv_int (hi' ▸ hs i i' h2);have hlt:n.toNat<es.length:=(List.getElem?_eq_some_iff.1 hn).1;generalize hev:a.eval x=v at hrd;cases hrd with
  | sl0=>simp at hlt
  | sl _ _ b ob esz' cap u hne hp hR hcap hzz hc hr =>
   have hze:esz'=esz:=by
    rw[←hz];exact (hzz cs (List.mem_of_getElem? hn)).symm
   subst hze;refine does_val hm (u := .pointer (some ⟨b,ob+n.toNat*esz',none⟩)) ?_ (.ca (.one (.dptr _ b (ob+n.toNat*esz') (u n.toNat) l (fun _=>hR) (fun j c hj => ?_) (fun j c hj=>hr _ cs hn j c hj))))
   ·simp only[execOp,hop,hev,hiv,Sem.run_bind]
    rw[run_iadr ty e inf hu hi ⟨b,ob,none⟩ es.length cap k n h0 (by omega),hsz,add_none];rfl
   ·rw[Nat.add_assoc]
    exact hc _ cs hn j c hj
end
end Go.Eng

namespace Go.Eng
open Go.RowKit
section
variable {B:Nat} {S:Nat→Prop} {w0:Base} {m:M}
variable {P:Program} {num:Nat→Nat} {o:Oper} {a:Act} {ρ:Opd→AV}
theorem run_loadAt (t:TypeId) (agg:Bool) (n:Nat) (hagg : ∀ w,(isAgg t).run P w = .ok agg w) (hn:if agg then ∃ i,P.info? t=some i∧i.size=n else n=1) (ad:Addr) (vs:List Value) (hl:vs.length=n) (w:World)
  (hc : ∀ q v,vs[q]? = some v→w.cell? (ad.add q)=some v):(Instr.loadAt t (.pointer (some ad))).run P w = .ok (if agg then .agg vs.toArray else vs.getD 0 undef) w:=by
 unfold Instr.loadAt loadVar;simp only[Instr.sureAddr,Sem.run_bind,Sem.run_pure,Result.andThen_ok,hagg w];cases agg with
 | true =>
  simp only[if_true]at hn;obtain ⟨i,hi,hs⟩:=hn;have:=run_loadCells_list (P:=P) w ad vs hc
  simp [sizeOf,typeInfo,hi,hs,←hl,this]
 | false =>
  simp only[Bool.false_eq_true,if_false]at hn ⊢;have hlt:0<vs.length:=by omega
  have h0:=hc 0 vs[0] (List.getElem?_eq_getElem hlt);have h0':w.cell? ad=some vs[0]:=by simpa [Addr.add] using h0
  simp [load,Sem.run,h0',hlt]
theorem own_cells (hm:MemOK B S w0 m) {s t i j n:Nat} (hlo:s<mapLo) {cs:List AV} (h:m.own.ldp s t i j n=some cs) : ∃ b g arr e,m.own.get s t=some b∧(0<n→m.ν s t=some g∧m.w.heap[g]? = some (.cells arr e (0,0))) ∧
  ∃ vs:List Value,vs.length=n∧CL B S m cs vs ∧ ∀ q v,vs[q]? = some v→arr[i*b.esz+j+q]? = some v:=by
 unfold Own.ldp at h;cases hb:m.own.get s t with
 | none=>simp [hb]at h
 | some b =>
  simp only[hb]at h;cases he:b.es[i]? with
  | none=>simp [he]at h
  | some ds =>
   simp only[he,part]at h;split at h
   ·rename_i hle
    obtain rfl:(ds.drop j).take n=cs:=by simpa using h
    obtain ⟨hz,hmat⟩:=hm.blkC hb hlo;cases hν:m.ν s t with
    | none =>
     rw[hν]at hmat;rw[hmat]at he;simp at he
    | some g =>
     rw[hν]at hmat;obtain ⟨hB,arr,e,hh,hcc⟩:=hmat;have hsz : ∀ q,q<n → ∃ u,arr[i*b.esz+j+q]? = some u:=fun q hq=>by
      have hlt:j+q<ds.length:=by omega
      obtain ⟨u,hu,_⟩:=hcc i ds he (j+q) ds[j+q] (List.getElem?_eq_getElem hlt);exact ⟨u,by rw[←hu];congr 1;omega⟩
     refine ⟨b,g,arr,e,rfl,fun _=>⟨rfl,hh⟩,(arr.toList.drop (i*b.esz+j)).take n,?_,⟨?_,?_⟩,?_⟩
     ·rw[List.length_take,List.length_drop]
      rcases Nat.eq_zero_or_pos n with h0|h0
      ·omega
      ·obtain ⟨u,hu⟩:=hsz (n-1) (by omega)
       have:=(Array.getElem?_eq_some_iff.1 hu).1
       simp;omega
     ·rw[List.length_take,List.length_take,List.length_drop,List.length_drop]
      rcases Nat.eq_zero_or_pos n with h0|h0
      ·omega
      ·obtain ⟨u,hu⟩:=hsz (n-1) (by omega)
       have:=(Array.getElem?_eq_some_iff.1 hu).1
       simp;omega
     ·intro q c v hq hv
      rw[List.getElem?_take]at hq hv;split at hq
      ·rename_i hqn
       rw[if_pos hqn]at hv;rw[List.getElem?_drop]at hq hv;obtain ⟨u,hu,hc⟩:=hcc i ds he (j+q) c hq;have:some u=some v:=by
        rw[←hu,←hv];simp only[Array.getElem?_toList];congr 1;omega
       obtain rfl:u=v:=by simpa using this
       exact hc
      ·cases hq
     ·intro q v hv
      rw[List.getElem?_take]at hv;split at hv
      ·rw[List.getElem?_drop]at hv
       simpa using hv
      ·cases hv
   ·cases h
theorem cell_at {w:World} {g p:Nat} {arr:Array Value} {e:TypeId} (h:w.heap[g]? = some (.cells arr e (0,0))):w.cell? ⟨g,p,none⟩=arr[p]? := by
 simp [World.cell?,h]
theorem do_ld_ptr (hm:MemOK B S w0 m) (hs:Says B S m ρ a.eval) {agg:Bool} {n:Nat} {x':Opd} (h:okOp P num o.op (.ld agg n x')=true) {s t i j:Nat} {cs:List AV} {v:AV} (hx:ρ x' = .ptr s t i j) (hl:m.own.ldp s t i j n=some cs) (hv:ofCells agg cs=some v) :
  Does B S w0 P o a m (.val v):=by
 obtain ⟨ty,x,hop,h1,hagg,hn⟩:=inv_ld h;obtain ⟨ad,hev,ht,hb⟩:=cv_ptr (hx ▸ hs x x' h1);obtain ⟨b,g,arr,e,hget,hg,vs,hvl,hcl,hvs⟩:=own_cells hm (cv_ptr_lo (hx ▸ hs x x' h1)) hl;obtain ⟨hcv,_⟩:=ofCells_ok hv hcl;refine does_val hm ?_ hcv;simp only[execOp,hop,Sem.run_bind,hev];rw[run_loadAt ty agg n hagg hn ad vs hvl m.w (fun q u hq => ?_)]
 ·rfl
 ·have hlt:q<vs.length:=(List.getElem?_eq_some_iff.1 hq).1
  obtain ⟨hg1,hg2⟩:=hg (by omega);obtain ⟨g',hg',rfl⟩:=hb b hget;obtain rfl:g=g':=by rw[hg1]at hg';simpa using hg'
  rw[add_none,cell_at hg2];exact hvs q u hq
theorem do_ld_dptr (hm:MemOK B S w0 m) (hs:Says B S m ρ a.eval) {agg:Bool} {n:Nat} {x':Opd} (h:okOp P num o.op (.ld agg n x')=true) {cs ds:List AV} {v:AV} (hx:ρ x' = .dptr cs) (hl:part cs 0 n=some ds) (hv:ofCells agg ds=some v) :
  Does B S w0 P o a m (.val v):=by
 obtain ⟨ty,x,hop,h1,hagg,hn⟩:=inv_ld h;obtain ⟨b,ob,u,l,hev,hR,hc,hr⟩:=cv_dptr (hx ▸ hs x x' h1);unfold Eng.part at hl;split at hl
 ·rename_i hle
  obtain rfl:(cs.drop 0).take n=ds:=by simpa using hl
  have hcl:CL B S m ((cs.drop 0).take n) ((List.range n).map u):=by
   refine ⟨by simp;omega,fun q c v' hq hv' => ?_⟩;simp only[List.drop_zero,List.getElem?_take]at hq;split at hq
   ·rename_i hqn
    simp [hqn]at hv';subst hv';exact .rd (hr q c hq)
   ·cases hq
  obtain ⟨hcv,_⟩:=ofCells_ok hv hcl;refine does_val hm ?_ hcv;simp only[execOp,hop,Sem.run_bind,hev];rw[run_loadAt ty agg n hagg hn ⟨b,ob,none⟩ ((List.range n).map u) (by simp) m.w (fun q w' hq => ?_)]
  ·rfl
  ·have hqn:q<n:=by have:=(List.getElem?_eq_some_iff.1 hq).1;simpa using this
   simp [hqn]at hq;subst hq;rw[add_none];exact hc q cs[q] (List.getElem?_eq_getElem (by omega))
 ·cases hl
theorem splice_get {α:Type} (l:List α) (off:Nat) (vs:List α) (h:off+vs.length≤l.length) (q:Nat):(l.take off++vs++l.drop (off+vs.length))[q]? = if q<off then l[q]? else if q<off+vs.length then vs[q-off]? else l[q]? := by
 rw[List.append_assoc];by_cases h1:q<off
 ·rw[if_pos h1,List.getElem?_append_left (by simp;omega),List.getElem?_take,if_pos h1]
 ·rw[if_neg h1,List.getElem?_append_right (by simp;omega)]
  have e1:(l.take off).length=off:=by simp;omega
  rw[e1];by_cases h2:q<off+vs.length
  ·rw[if_pos h2,List.getElem?_append_left (by omega)]
  ·rw[if_neg h2,List.getElem?_append_right (by omega),List.getElem?_drop]
   congr 1;omega
theorem below_setRow (hm:MemOK B S w0 m) {g:Nat} (hB:B≤g) (arr:Array Value):Bel w0.D B w0.w (m.w.setRow g arr) :=
 hm.below.trans ⟨⟨rfl,rfl,rfl,by simp,fun k hk=>setRow_other _ _ _ _ (by omega)⟩,fun _=>Nat.le_refl _⟩
theorem do_st (hm:MemOK B S w0 m) (hs:Says B S m ρ a.eval) {n:Nat} {x' v':Opd} (h:okOp P num o.op (.st n x' v')=true) {s t i j:Nat} {vs:List AV} {own':Own} (hx:ρ x' = .ptr s t i j) (hv:cellsOf (ρ v')=some vs) (hn:vs.length=n) (hst:m.own.stp s t i j vs=some own') :
  Does B S w0 P o a m (.tur (.tup []) own'):=by
 obtain ⟨ty,x,v,inf,hop,h1,h2,hi,hsz⟩:=inv_st h;obtain ⟨ad,hev,ht,hb⟩:=cv_ptr (hx ▸ hs x x' h1);have hcl:=cv_cells (hs v v' h2) hv;unfold Own.stp at hst;cases hget:m.own.get s t with
 | none=>simp [hget]at hst
 | some b =>
  simp only[hget]at hst;cases he:b.es[i]? with
  | none=>simp [he]at hst
  | some cs =>
   simp only[he]at hst;split at hst
   ·rename_i hle
    obtain rfl:=Option.some.inj hst;have hlo:=cv_ptr_lo (hx ▸ hs x x' h1);obtain ⟨hz,hmat⟩:=hm.blkC hget hlo;obtain ⟨g,hg,rfl⟩:=hb b hget;rw[hg]at hmat;obtain ⟨hB,arr,e,hh,hcc⟩:=hmat;have hcsl:cs.length=b.esz:=hz cs (List.mem_of_getElem? he);have hlen:(a.eval v).cells.toList.length=vs.length:=hcl.1.symm;have hil:i<b.es.length:=(List.getElem?_eq_some_iff.1 he).1;have hoff:i*b.esz+j+vs.length≤arr.size:=by
     rcases Nat.eq_zero_or_pos vs.length with h0|h0
     ·rcases Nat.eq_zero_or_pos j with hj0|hj0
      ·rw[h0,hj0]
       rcases Nat.eq_zero_or_pos i with hi0|hi0
       ·rw[hi0];omega
       ·rcases Nat.eq_zero_or_pos b.esz with hz0|hz0
        ·rw[hz0];omega
        ·have hi1:i-1<b.es.length:=by omega
         have hl1:(b.es[i-1]).length=b.esz:=hz _ (List.getElem_mem hi1);obtain ⟨u,hu,_⟩:=hcc (i-1) _ (List.getElem?_eq_getElem hi1) (b.esz-1) _ (List.getElem?_eq_getElem (by omega));have:=(Array.getElem?_eq_some_iff.1 hu).1
         have e1:(i-1)*b.esz+b.esz=i*b.esz:=by
          rw[←Nat.succ_mul];congr 1;omega
         omega
      ·obtain ⟨u,hu,_⟩:=hcc i cs he (j-1) cs[j-1] (List.getElem?_eq_getElem (by omega))
       have:=(Array.getElem?_eq_some_iff.1 hu).1
       omega
     ·obtain ⟨u,hu,_⟩:=hcc i cs he (j+vs.length-1) cs[j+vs.length-1] (List.getElem?_eq_getElem (by omega))
      have:=(Array.getElem?_eq_some_iff.1 hu).1
      omega
    have hone:=cl_one hcl;have hstore:=run_storeCells_at (P:=P) g (i*b.esz+j) e (a.eval v).cells.toList 0 arr m.w hh (by rw[hlen];omega) hone;generalize harr':(arr.toList.take (i*b.esz+j+0)++(a.eval v).cells.toList++arr.toList.drop (i*b.esz+j+0+(a.eval v).cells.toList.length)).toArray=arr' at hstore;have harrg : ∀ p,arr'[p]? = if p<i*b.esz+j then arr[p]? else if p<i*b.esz+j+vs.length then (a.eval v).cells.toList[p-(i*b.esz+j)]? else arr[p]? := fun p=>by
     rw[←harr'];simp only[Nat.add_zero,List.getElem?_toArray];rw[splice_get _ _ _ (by rw[hlen];simpa using hoff),hlen];simp only[Array.getElem?_toList]
    have hsize':arr'.size=arr.size:=by
     rw[←harr'];simp [hlen];have:=hlen
     simp at this;omega
    obtain ⟨k1,k2⟩:=upd_ok hm s t hlo b ⟨b.esz,b.es.set i (splice cs j vs)⟩ hget g hg arr arr' e hh rfl (fun y hy=>by
      rcases List.mem_or_eq_of_mem_set hy with hy|hy
      ·exact hz y hy
      ·rw[hy,←hcsl];simp [splice];omega) hsize'
     (fun i' cs' hi' q c hq=>by
      show ∃ u,arr'[i'*b.esz+q]? = some u∧_;change (b.es.set i (splice cs j vs))[i']? = some cs' at hi';by_cases hii:i'=i
      ·subst hii
       rw[List.getElem?_set_self hil]at hi';obtain rfl:splice cs j vs=cs':=by simpa using hi'
       unfold splice at hq;rw[splice_get _ _ _ hle]at hq;rw[harrg];by_cases hq1:q<j
       ·rw[if_pos hq1]at hq
        rw[if_pos (by omega)];exact hcc i' cs he q c hq
       ·rw[if_neg hq1]at hq
        rw[if_neg (by omega)];by_cases hq2:q<j+vs.length
        ·rw[if_pos hq2]at hq
         rw[if_pos (by omega)];obtain ⟨u,hu,hcu⟩:=cl_get hcl hq;exact ⟨u,by rw[←hu];congr 1;omega,hcu⟩
        ·rw[if_neg hq2]at hq
         rw[if_neg (by omega)];exact hcc i' cs he q c hq
      ·rw[List.getElem?_set_ne (by omega)]at hi'
       have hql:q<b.esz:=by
        rw[←hz cs' (List.mem_of_getElem? hi')];exact (List.getElem?_eq_some_iff.1 hq).1
       obtain ⟨u,hu,hcu⟩:=hcc i' cs' hi' q c hq;refine ⟨u,?_,hcu⟩;rw[harrg,←hu];rcases Nat.lt_or_gt_of_ne hii with hlt|hgt
       ·have:(i'+1)*b.esz≤i*b.esz:=Nat.mul_le_mul_right _ hlt
        rw[Nat.succ_mul]at this;rw[if_pos (by omega)]
       ·have:(i+1)*b.esz≤i'*b.esz:=Nat.mul_le_mul_right _ hgt
        rw[Nat.succ_mul]at this;rw[if_neg (by omega),if_neg (by omega)])
     (m.w.setRow g arr') (below_setRow hm hB arr') (by simp) (fun k hk=>setRow_other _ _ _ _ hk) (setRow_heap _ _ _ _ _ _ hh)
    intro K Q hK;refine wp_of_run_skip (w':=m.w.setRow g arr') ?_ (hK undef ⟨m.ν,_,m.w.setRow g arr'⟩ rfl k1 k2 mkUndef);have hsz':(a.eval v).cells.size=inf.size:=by rw[hsz,←hn,←hlen];simp
    simp only[execOp,hop,hev,Instr.storeAt,storeVar,Instr.sureAddr,Sem.run_bind,Sem.run_pure,Result.andThen_ok,sizeOf,typeInfo,run_program,hi];rw[if_neg (by simpa using hsz')];simp only[Sem.run_bind,Sem.run_pure,Result.andThen_ok,hstore]
   ·cases hst
theorem do_mk (hm:MemOK B S w0 m) (hs:Says B S m ρ a.eval) {s esz bytes:Nat} (hlo:s<mapLo) {zero:List AV} {l' c':Opd} (h:okOp P num o.op (.mk s esz bytes zero l' c')=true) {kl kc:IntKind} {l c:Int} (hl:ρ l' = .int kl l) (hc:ρ c' = .int kc c) (h0:0≤l) (hlc:l≤c) (hb:c*bytes≤roomMax) (h63:c≤9223372036854775807) (hz:zero.length=esz) :
  Does B S w0 P o a m (.new s ⟨esz,List.replicate l.toNat zero⟩ (fun t => .row s t esz 0 l.toNat)):=by
 obtain ⟨ty,lx,cx,e,inf,z,hop,h1,h2,hu,hi,hsz,hby,hz0,hzz,hne⟩:=inv_mk h;have el:=cv_int (hl ▸ hs lx l' h1);have ec:=cv_int (hc ▸ hs cx c' h2);have hcl:CL B S m zero z.cells.toList:=eqVals_cl hzz;have hzs:z.cells.size=esz:=by rw[←hz,hcl.1];simp
 refine do_row hm s esz l.toNat c.toNat hlo _ (madeCells z.cells (c.toNat*inf.size)) e (Nat.pos_of_ne_zero hne) (by omega) (by rw[size_madeCells,hsz];exact Nat.le_refl _) (fun x hx=>by rw[(List.mem_replicate.1 hx).2,hz]) (fun i cs hi' j c1 hj => ?_) ?_
 ·rw[List.getElem?_replicate]at hi'
  split at hi'
  ·rename_i hil
   obtain rfl:zero=cs:=by simpa using hi'
   obtain ⟨u,hu',hcu⟩:=cl_get hcl hj;refine ⟨u,?_,hcu⟩;have hjl:j<esz:=by rw[←hz];exact (List.getElem?_eq_some_iff.1 hj).1
   have hlt:i*esz+j<c.toNat*inf.size:=by
    rw[hsz];have h3:(i+1)*esz≤c.toNat*esz:=Nat.mul_le_mul_right _ (by omega);rw[Nat.succ_mul]at h3;omega
   have hmod:(i*esz+j)%z.cells.size=j:=by rw[hzs,Nat.add_comm,Nat.add_mul_mod_self_right,Nat.mod_eq_of_lt hjl]
   have hu2:z.cells[j]? = some u:=by simpa using hu'
   have hjs:j<z.cells.size:=(Array.getElem?_eq_some_iff.1 hu2).1;have hul:z.cells[j]=u:=(Array.getElem?_eq_some_iff.1 hu2).2;simp [madeCells,hlt,hmod,hjs,hul]
  ·cases hi'
 ·have:=run_make (P:=P) m.w ty e inf z hu hi hz0 kl kc l c h0 hlc (by rw[hby,Int.mul_comm];simp only[roomMax]at hb;omega) h63
  simp only[execOp,hop,el,ec,Sem.run_bind,this,Result.andThen_ok,Sem.run_pure]
theorem do_ext (hm:MemOK B S w0 m) (hs:Says B S m ρ a.eval) {x':Opd} {i:Nat} (h:okOp P num o.op (.ext x' i)=true) {vs:List AV} {v:AV} (hx:ρ x' = .tup vs) (hv:vs[i]? = some v):Does B S w0 P o a m (.val v):=by
 obtain ⟨x,hop,h1⟩:=inv_ext h;obtain ⟨us,hev,hl,hc⟩:=cv_tup (hx ▸ hs x x' h1);have hlt:i<us.length:=by rw[←hl];exact (List.getElem?_eq_some_iff.1 hv).1
 refine does_val hm (u:=us[i]) ?_ (.ca (hc i v us[i] hv (List.getElem?_eq_getElem hlt)));simp [execOp,hop,hev,Instr.extract,hlt]
theorem do_len (hm:MemOK B S w0 m) (hs:Says B S m ρ a.eval) {x':Opd} (h:okOp P num o.op (.len x')=true) {n:Nat} (hx:lenOf (ρ x')=some n):Does B S w0 P o a m (.val (.int .i64 n)):=by
 obtain ⟨x,t,e,hop,h1,hu⟩:=inv_len h;have hcv:=hs x x' h1;obtain ⟨ad,cap,hev⟩ : ∃ ad cap,a.eval x = .slice ad n cap:=by
  generalize ρ x'=av at *;cases av with
  | sl l es =>
   have hr:=cv_sl hcv;simp only[lenOf,Option.some.injEq]at hx;subst hx;generalize a.eval x=v at *;cases hr with
   | sl0=>exact ⟨_,_,rfl⟩
   | sl=>exact ⟨_,_,rfl⟩
  | row s t z off len =>
   obtain ⟨ad,cap,hv,_⟩:=cv_row hcv;simp only[lenOf,Option.some.injEq]at hx;subst hx;exact ⟨ad,cap,hv⟩
  | nil =>
   simp only[lenOf,Option.some.injEq]at hx;subst hx;exact ⟨_,_,cv_nil hcv⟩
  | _=>simp [lenOf]at hx
 refine does_val hm (u := .int .i64 n) ?_ (mkInt _ _);simp [execOp,hop,resolve,invoke,builtin,hev,Builtin.len_,run_underlying hu,goInt]
theorem eqOpds_says (hs:Says B S m ρ a.eval) : ∀ {xs:List Operand} {ys:List Opd},eqOpds xs ys=true→xs.length=ys.length ∧ ∀ (j:Nat) (x:Operand) (y:Opd),xs[j]? = some x→ys[j]? = some y→CV B S m (ρ y) (a.eval x)
 | [],[],_=>⟨rfl,fun j x y h=>by simp at h⟩
 | x::r,y::l,h=>by
  simp only[eqOpds,Bool.and_eq_true]at h;obtain ⟨ih1,ih2⟩:=eqOpds_says hs h.2;refine ⟨by simp [ih1],fun j x' y' hx hy => ?_⟩;cases j with
  | zero=>simp at hx hy;subst hx hy;exact hs _ _ h.1
  | succ j=>exact ih2 j x' y' (by simpa using hx) (by simpa using hy)
 | [],_::_,h=>by simp [eqOpds]at h
 | _::_,[],h=>by simp [eqOpds]at h
theorem run_mm (mx:Bool) (hs:Says B S m ρ a.eval) (w:World) : ∀ (xs:List Operand) (ys:List Opd) (v:AV) (u:Value) (r:AV),eqOpds xs ys=true→CV B S m v u→mmL mx v (ys.map ρ)=some r→(∃ k n,v = .int k n) → ∃ k n,r = .int k n ∧
  ((xs.map a.eval).foldlM (if mx then Builtin.max2 else Builtin.min2) u).run P w = .ok (.int k n) w
 | [],[],v,u,r,_,hc,hm,⟨k,n,hv⟩=>by
  simp only[List.map_nil,mmL,Option.some.injEq]at hm;subst hm hv;obtain rfl:=cv_int hc;exact ⟨k,n,rfl,by simp⟩
 | x::xr,y::yr,v,u,r,he,hc,hm,⟨k,n,hv⟩=>by
  simp only[eqOpds,Bool.and_eq_true]at he;simp only[List.map_cons,mmL]at hm;have hx:=hs x y he.1;subst hv;obtain rfl:=cv_int hc;cases hy:ρ y with
  | int k' n' =>
   rw[hy]at hx hm;have hxe:=cv_int hx;simp only[mm2]at hm;obtain ⟨k2,n2,rfl,h2⟩:=run_mm mx hs w xr yr _ (.int k (if mx then (if n'>n then n' else n) else (if n'<n then n' else n))) r he.2 (mkInt _ _) hm ⟨_,_,rfl⟩;refine ⟨k2,n2,rfl,?_⟩;simp only[List.map_cons,List.foldlM_cons,Sem.run_bind,hxe];cases mx
   ·simpa [Builtin.min2] using h2
   ·simpa [Builtin.max2] using h2
  | _=>rw[hy]at hm;simp [mm2]at hm
 | [],_::_,_,_,_,he,_,_,_=>by simp [eqOpds]at he
 | _::_,[],_,_,_,he,_,_,_=>by simp [eqOpds]at he
theorem do_mm (hm:MemOK B S w0 m) (hs:Says B S m ρ a.eval) {mx:Bool} {xs':List Opd} (h:okOp P num o.op (.mm mx xs')=true) {v r:AV} {l:List AV} (hx:xs'.map ρ=v::l) (hv:mmL mx v l=some r) (hi : ∃ k n,v = .int k n):Does B S w0 P o a m (.val r):=by
 obtain ⟨xs,ts,hop,he⟩:=inv_mm h;cases xs' with
 | nil=>simp at hx
 | cons y yr =>
  simp only[List.map_cons,List.cons.injEq]at hx;obtain ⟨rfl,rfl⟩:=hx;obtain ⟨xl⟩:=xs;cases xl with
  | nil=>simp [eqOpds]at he
  | cons x xr =>
   simp only[eqOpds,Bool.and_eq_true]at he;obtain ⟨k,n,rfl,hrun⟩:=run_mm (P:=P) mx hs m.w xr yr (ρ y) (a.eval x) r he.2 (hs x y he.1) hv hi;refine does_val hm (u := .int k n) ?_ (mkInt _ _);cases mx
   ·simp only[execOp,hop,resolve,invoke,builtin,Builtin.min_,Sem.run_bind,Sem.run_pure,Result.andThen_ok]at hrun ⊢
    simp at hrun ⊢;rw[hrun];rfl
   ·simp only[execOp,hop,resolve,invoke,builtin,Builtin.max_,Sem.run_bind,Sem.run_pure,Result.andThen_ok]at hrun ⊢
    simp at hrun ⊢;rw[hrun];rfl
end
end Go.Eng

namespace Go.Eng
open Go.RowKit
section
variable {B:Nat} {S:Nat→Prop} {w0:Base} {m:M}
variable {P:Program} {num:Nat→Nat} {o:Oper} {a:Act} {ρ:Opd→AV}
def bndA (ρ:Opd→AV) (d:Nat):Option Opd→Option Int
 | none=>some d
 | some y=>match ρ y with | .int _ n=>some n|_=>none
theorem run_slc (ty e:TypeId) (inf:TypeInfo) (hu:P.underlying ty=some (.slice e)) (hi:P.info? e=some inf) (hs:Says B S m ρ a.eval) {lo hi':Option Operand} {lo' hi'':Option Opd} (hlo:eqOpt lo lo'=true) (hhi:eqOpt hi' hi''=true)
  (ad:Option Addr) (len cap:Nat) (l h:Int) (hl:bndA ρ 0 lo'=some l) (hh:bndA ρ len hi''=some h) (h0:0≤l) (hlh:l≤h) (hhl:h≤len) (hlc:len≤cap) (w:World) :
  (Instr.sliceAt ty (.slice ad len cap) (lo.map a.eval) (hi'.map a.eval) none).run P w = .ok (.slice (if cap=l.toNat then ad else ad.map (·.add (l.toNat*inf.size))) (h.toNat-l.toNat) (cap-l.toNat)) w:=by
 have hiv : ∀ {x:Option Operand} {y:Option Opd} {d:Nat} {n:Int},eqOpt x y=true→bndA ρ d y=some n→(x=none∧y=none∧n=d) ∨ ∃ x' k,x=some x'∧a.eval x' = .int k n:=by
  intro x y d n hxy hb;cases x with
  | none=>cases y with
   | none=>simp [bndA]at hb;exact .inl ⟨rfl,rfl,hb.symm⟩
   | some y=>simp [eqOpt]at hxy
  | some x=>cases y with
   | none=>simp [eqOpt]at hxy
   | some y =>
    simp only[eqOpt]at hxy;simp only[bndA]at hb;cases hy:ρ y with
    | int k q =>
     rw[hy]at hb;simp only[Option.some.injEq]at hb;subst hb;exact .inr ⟨x,k,rfl,cv_int (hy ▸ hs x y hxy)⟩
    | _=>rw[hy]at hb;cases hb
 have hcapb:h≤(cap:Int):=by omega
 unfold Instr.sliceAt Instr.slice Instr.sliceBounds;rcases hiv hlo hl with ⟨rfl,_,rfl⟩|⟨x1,k1,rfl,e1⟩<;>rcases hiv hhi hh with ⟨rfl,_,rfl⟩|⟨x2,k2,rfl,e2⟩
 ·simp [run_underlying hu,sizeOf,typeInfo,hi]
 ·have hb1:=run_sliceBound (P:=P) w k2 h cap .sliceAcap (by omega) hcapb
  simp [run_underlying hu,sizeOf,typeInfo,hi,e2,hb1]
 ·have hb2:=run_sliceBound (P:=P) w k1 l len .sliceB h0 (by omega)
  simp [run_underlying hu,sizeOf,typeInfo,hi,e1,hb2]
 ·have hb1:=run_sliceBound (P:=P) w k2 h cap .sliceAcap (by omega) hcapb
  have hb2:=run_sliceBound (P:=P) w k1 l h.toNat .sliceB h0 (by omega);simp [run_underlying hu,sizeOf,typeInfo,hi,e1,e2,hb1,hb2]
theorem do_slc_nil (hm:MemOK B S w0 m) (hs:Says B S m ρ a.eval) {esz:Nat} {x':Opd} {lo' hi':Option Opd} (h:okOp P num o.op (.slc esz x' lo' hi')=true) (hx:ρ x' = .nil) (hl:bndA ρ 0 lo'=some 0) (hh:bndA ρ 0 hi'=some 0):Does B S w0 P o a m (.val .nil):=by
 obtain ⟨ty,x,lo,hi2,e,inf,hop,h1,h2,h3,hu,hi,hsz,hne⟩:=inv_slc h;have hev:=cv_nil (hx ▸ hs x x' h1);have hrun:=run_slc ty e inf hu hi hs h2 h3 none 0 0 0 0 hl hh (by omega) (by omega) (by omega) (by omega) m.w;refine does_val hm (u := .slice none 0 0) ?_ (.ca (.one .nil));simp only[execOp,hop,hev,Sem.run_bind,Option.map_none,hrun];rfl
theorem do_slc_row (hm:MemOK B S w0 m) (hs:Says B S m ρ a.eval) {esz:Nat} {x':Opd} {lo' hi':Option Opd} (h:okOp P num o.op (.slc esz x' lo' hi')=true) {s t z off len:Nat} {l u:Int} (hx:ρ x' = .row s t z off len) (hl:bndA ρ 0 lo'=some l) (hh:bndA ρ len hi'=some u) (h0:0≤l) (hlu:l≤u) (hul:u≤len) (hz:z=esz) :
  Does B S w0 P o a m (.val (.row s t z (off+l.toNat) (u.toNat-l.toNat))):=by
 obtain ⟨ty,x,lo,hi2,e,inf,hop,h1,h2,h3,hu,hi,hsz,hne⟩:=inv_slc h;obtain ⟨ad,cap,hev,ht,hz0,hlc,ha,hb⟩:=cv_row (hx ▸ hs x x' h1);have hrun:=run_slc ty e inf hu hi hs h2 h3 ad len cap l u hl hh h0 hlu hul hlc m.w;refine does_val hm ?_ (.ca (.one (.row s t z (off+l.toNat) (u.toNat-l.toNat) (if cap=l.toNat then ad else ad.map (·.add (l.toNat*inf.size))) (cap-l.toNat) ht hz0 (by omega) (fun hp => ?_) (fun b hb' => ?_) (cv_row_lo (hx ▸ hs x x' h1)))))
 ·simp only[execOp,hop,hev,Sem.run_bind,Option.map_none,hrun]
  rfl
 ·rw[if_neg (by omega)]
  obtain ⟨ad',rfl⟩:=Option.isSome_iff_exists.1 (ha (by omega));rfl
 ·obtain ⟨hbz,hor⟩:=hb b hb'
  refine ⟨hbz,?_⟩;rcases hor with ⟨hl0,hc0⟩|⟨g,arr,e',hg,hae,hh',hle⟩
  ·exact .inl ⟨by omega,by omega⟩
  ·by_cases hc:cap=l.toNat
   ·exact .inl ⟨by omega,by omega⟩
   ·refine .inr ⟨g,arr,e',hg,?_,hh',?_⟩
    ·rw[if_neg hc,hae,hsz,hz]
     simp only[Option.map_some,add_none,Nat.add_mul]
    ·rw[show off+l.toNat+(cap-l.toNat)=off+cap by omega]
     exact hle
theorem do_slc_sl (hm:MemOK B S w0 m) (hs:Says B S m ρ a.eval) {esz:Nat} {x':Opd} {lo' hi':Option Opd} (h:okOp P num o.op (.slc esz x' lo' hi')=true) {lt:Bool} {es:List (List AV)} {l u:Int} (hx:ρ x' = .sl lt es) (hl:bndA ρ 0 lo'=some l) (hh:bndA ρ es.length hi'=some u) (h0:0≤l) (hlu:l≤u) (hul:u≤es.length) (hz : ∀ e∈es,e.length=esz) :
  Does B S w0 P o a m (.val (.sl lt ((es.take u.toNat).drop l.toNat))):=by
 obtain ⟨ty,x,lo,hi2,e,inf,hop,h1,h2,h3,hu,hi,hsz,hne⟩:=inv_slc h;have hrd:=cv_sl (hx ▸ hs x x' h1);generalize hev:a.eval x=v at hrd;cases hrd with
 | sl0 _ ad cap =>
  have hrun:=run_slc ty e inf hu hi hs h2 h3 ad 0 cap l u hl hh h0 hlu (by simpa using hul) (by omega) m.w;simp only[List.length_nil]at hul;rw[show (([]:List (List AV)).take u.toNat).drop l.toNat=[] by simp];refine does_val hm (u := .slice (if cap=l.toNat then ad else ad.map (·.add (l.toNat*inf.size))) 0 (cap-l.toNat)) ?_ (.ca (.one (.rd (.sl0 lt _ _))));simp only[execOp,hop,hev,Sem.run_bind,Option.map_none,hrun];rw[show u.toNat-l.toNat=0 by omega];rfl
 | sl _ _ b ob esz' cap uu hne' hp hR hcap hzz hc hr =>
  have hrun:=run_slc ty e inf hu hi hs h2 h3 (some ⟨b,ob,none⟩) es.length cap l u hl hh h0 hlu hul hcap m.w;have hze:esz'=esz:=by
   cases es with
   | nil=>exact absurd rfl hne'
   | cons q r=>rw[←hzz q (by simp),hz q (by simp)]
  subst hze;by_cases hz0:u.toNat-l.toNat=0
  ·have:(es.take u.toNat).drop l.toNat=[]:=by
    apply List.eq_nil_of_length_eq_zero;simp;omega
   rw[this];refine does_val hm (u := .slice (if cap=l.toNat then some ⟨b,ob,none⟩ else (some (⟨b,ob,none⟩:Addr)).map (·.add (l.toNat*inf.size))) 0 (cap-l.toNat)) ?_ (.ca (.one (.rd (Rd.sl0 lt _ _))));simp only[execOp,hop,hev,Sem.run_bind,Option.map_none,hrun];rw[hz0];rfl
  ·have hlen:((es.take u.toNat).drop l.toNat).length=u.toNat-l.toNat:=by simp;omega
   have hget : ∀ i,i<u.toNat-l.toNat→((es.take u.toNat).drop l.toNat)[i]? = es[l.toNat+i]? := fun i hi'=>by
    rw[List.getElem?_drop,List.getElem?_take,if_pos (by omega)]
   refine does_val hm (u := .slice (some ⟨b,ob+l.toNat*esz',none⟩) ((es.take u.toNat).drop l.toNat).length (cap-l.toNat)) ?_ (.ca (.one (.rd (.sl lt _ b (ob+l.toNat*esz') esz' (cap-l.toNat) (fun i j=>uu (l.toNat+i) j) (fun e=>hz0 (by rw[←hlen,e];rfl)) hp hR (by rw[hlen];omega) (fun q hq=>hzz q (List.mem_of_mem_take (List.mem_of_mem_drop hq))) (fun i q hi' j c hj => ?_) (fun i q hi' j c hj => ?_)))))
   ·simp only[execOp,hop,hev,Sem.run_bind,Option.map_none,hrun]
    rw[if_neg (by omega),hlen,hsz];simp only[Option.map_some,add_none];rfl
   ·have hil:i<u.toNat-l.toNat:=by rw[←hlen];exact (List.getElem?_eq_some_iff.1 hi').1
    rw[hget i hil]at hi';rw[show ob+l.toNat*esz'+(i*esz'+j)=ob+((l.toNat+i)*esz'+j) by rw[Nat.add_mul];omega];exact hc _ q hi' j c hj
   ·have hil:i<u.toNat-l.toNat:=by rw[←hlen];exact (List.getElem?_eq_some_iff.1 hi').1
    rw[hget i hil]at hi';exact hr _ q hi' j c hj
structure Elems (B:Nat) (S:Nat→Prop) (m:M) (esz:Nat) (ys:List (List AV)) (ad:Option Addr) (news:List Value):Prop where
 len:news.length=ys.length*esz
 cells : ∀ b,ad=some b → ∀ j v,news[j]? = some v→m.w.cell? (b.add j)=some v
 some_:ys≠[]→ad.isSome=true
 rel : ∀ i cs,ys[i]? = some cs → ∀ j c,cs[j]? = some c → ∃ u,news[i*esz+j]? = some u∧CC B S m c u
theorem div_mod_at (esz i j:Nat) (h:j<esz):(i*esz+j)/esz=i∧(i*esz+j)%esz=j:=by
 constructor
 ·rw[Nat.add_comm,Nat.add_mul_div_right _ _ (by omega),Nat.div_eq_of_lt h,Nat.zero_add]
 ·rw[Nat.add_comm,Nat.add_mul_mod_self_right,Nat.mod_eq_of_lt h]
theorem elems_of (hm:MemOK B S w0 m) {av:AV} {v:Value} (hc:CV B S m av v) {ys:List (List AV)} (he:elemsOf m.own av=some ys) {esz:Nat} (hz : ∀ e∈ys,e.length=esz) (h0:0<esz) :
  ∃ ad cap news,v = .slice ad ys.length cap∧Elems B S m esz ys ad news:=by
 cases av with
 | sl l es =>
  simp only[elemsOf,Option.some.injEq]at he;subst he;cases cv_sl hc with
  | sl0 _ ad cap=>exact ⟨ad,cap,[],rfl,by simp,fun b _ j v hv=>by simp at hv,fun h=>absurd rfl h,fun i cs hi=>by simp at hi⟩
  | sl _ _ b ob esz' cap uu hne' hp hR hcap hzz hcl hr =>
   have hze:esz'=esz:=by
    cases es with
    | nil=>exact absurd rfl hne'
    | cons q r=>rw[←hzz q (by simp),hz q (by simp)]
   subst hze;refine ⟨some ⟨b,ob,none⟩,cap,(List.range (es.length*esz')).map (fun k=>uu (k/esz') (k%esz')),rfl,by simp,fun b' hb' j v hv => ?_,fun _=>rfl,fun i cs hi j c hj => ?_⟩
   ·obtain rfl:(⟨b,ob,none⟩:Addr)=b':=by simpa using hb'
    rw[List.getElem?_map]at hv;have hjl:j<es.length*esz':=by
     rcases Nat.lt_or_ge j (es.length*esz') with h|h
     ·exact h
     ·rw[List.getElem?_eq_none (by simpa using h)]at hv;cases hv
    rw[List.getElem?_range hjl]at hv;simp only[Option.map_some,Option.some.injEq]at hv;subst hv;have hd:j/esz'<es.length:=Nat.div_lt_of_lt_mul (by rw[Nat.mul_comm];exact hjl);have hmo:j%esz'<esz':=Nat.mod_lt _ h0;have hel:(es[j/esz']).length=esz':=hzz _ (List.getElem_mem hd);have:=hcl (j/esz') _ (List.getElem?_eq_getElem hd) (j%esz') _ (List.getElem?_eq_getElem (by rw[hel];exact hmo))
    rw[add_none,←this];congr 2;have:=Nat.div_add_mod j esz'
    rw[Nat.mul_comm]at this;omega
   ·have hjl:j<esz':=by rw[←hzz cs (List.mem_of_getElem? hi)];exact (List.getElem?_eq_some_iff.1 hj).1
    have hil:i<es.length:=(List.getElem?_eq_some_iff.1 hi).1;have hlt:i*esz'+j<es.length*esz':=by
     have:(i+1)*esz'≤es.length*esz':=Nat.mul_le_mul_right _ hil
     rw[Nat.succ_mul]at this;omega
    obtain ⟨e1,e2⟩:=div_mod_at esz' i j hjl;refine ⟨uu i j,?_,.rd (hr i cs hi j c hj)⟩;rw[List.getElem?_map,List.getElem?_range hlt];simp [e1,e2]
 | nil =>
  simp only[elemsOf,Option.some.injEq]at he;subst he;exact ⟨none,0,[],cv_nil hc,by simp,fun b hb=>(by cases hb),fun h=>absurd rfl h,fun i cs hi=>by simp at hi⟩
 | row s t z off len =>
  obtain ⟨ad,cap,hv,ht,hz0,hlc,ha,hb⟩:=cv_row hc;simp only[elemsOf]at he;cases hget:m.own.get s t with
  | none=>simp [hget]at he
  | some b =>
   simp only[hget]at he;split at he
   ·rename_i hle
    obtain ⟨hle,hbz⟩:=hle;obtain rfl:=Option.some.inj he;have hyl:((b.es.drop off).take len).length=len:=by simp;omega
    obtain ⟨_,hor⟩:=hb b hget;by_cases hl0:len=0
    ·subst hl0
     refine ⟨ad,cap,[],by simpa using hv,by simp,fun b _ j v hv=>by simp at hv,fun h=>absurd (by simp) h,fun i cs hi=>by simp at hi⟩
    ·rcases hor with ⟨h1,_⟩|⟨g,arr,e',hg,hae,hh',hle'⟩
     ·exact absurd h1 hl0
     ·obtain ⟨hzz,hmat⟩:=hm.blkC hget (cv_row_lo hc)
      rw[hg]at hmat;obtain ⟨hB,arr2,e2,hh2,hcc⟩:=hmat;rw[hh']at hh2;obtain ⟨rfl,rfl⟩:arr=arr2∧e'=e2:=by simpa using hh2
      have hez:esz=z:=by
       have hlt:off<b.es.length:=by omega
       have h1:b.es[off]∈(b.es.drop off).take len:=by
        have:((b.es.drop off).take len)[0]? = some b.es[off]:=by
         rw[List.getElem?_take,if_pos (by omega),List.getElem?_drop];simp [hlt]
        exact List.mem_of_getElem? this
       rw[←hz _ h1,hzz _ (List.getElem_mem hlt),hbz]
      subst hez;have hsz:off*esz+len*esz≤arr.size:=by
       have:(off+len)*esz≤(off+cap)*esz:=Nat.mul_le_mul_right _ (by omega)
       rw[Nat.add_mul]at this;omega
      refine ⟨ad,cap,(arr.toList.drop (off*esz)).take (len*esz),by rw[hyl];exact hv,by rw[hyl];simp;omega,fun b' hb' j v hv' => ?_,fun _=>by rw[hae];rfl,fun i cs hi j c hj => ?_⟩
      ·rw[hae]at hb'
       obtain rfl:(⟨g,off*esz,none⟩:Addr)=b':=by simpa using hb'
       rw[List.getElem?_take]at hv';split at hv'
       ·rw[List.getElem?_drop]at hv'
        rw[add_none,cell_at hh'];simpa using hv'
       ·cases hv'
      ·rw[List.getElem?_take]at hi
       split at hi
       ·rename_i hil
        rw[List.getElem?_drop]at hi;have hjl:j<esz:=by rw[←hbz,←hzz cs (List.mem_of_getElem? hi)];exact (List.getElem?_eq_some_iff.1 hj).1
        obtain ⟨u,hu,hcu⟩:=hcc (off+i) cs hi j c hj;refine ⟨u,?_,hcu⟩;have hlt:i*esz+j<len*esz:=by
         have:(i+1)*esz≤len*esz:=Nat.mul_le_mul_right _ hil
         rw[Nat.succ_mul]at this;omega
        rw[List.getElem?_take,if_pos hlt,List.getElem?_drop,←hu,hbz];simp only[Array.getElem?_toList];congr 1;rw[Nat.add_mul];omega
       ·cases hi
   ·cases he
 | con v' =>
  cases v' with
  | bool b =>
   simp only[elemsOf,Option.some.injEq]at he;subst he;obtain ⟨ad,cap,hv,_⟩:=cv_emp hc;exact ⟨ad,cap,[],hv,by simp,fun b' hb' j v hv'=>by simp at hv',fun h=>absurd rfl h,fun i cs hi=>by simp at hi⟩
  | _=>simp [elemsOf]at he
 | _=>simp [elemsOf]at he
theorem Elems.one {esz:Nat} {ys:List (List AV)} {ad:Option Addr} {news:List Value} (h:Elems B S m esz ys ad news) (h0:0<esz) (hz : ∀ e∈ys,e.length=esz) : ∀ u∈news,u.oneCell'=true:=by
 intro u hu;obtain ⟨k,hk,rfl⟩:=List.getElem_of_mem hu;rw[h.len]at hk;have hd:k/esz<ys.length:=Nat.div_lt_of_lt_mul (by rw[Nat.mul_comm];exact hk);have hmo:k%esz<esz:=Nat.mod_lt _ h0;have hel:(ys[k/esz]).length=esz:=hz _ (List.getElem_mem hd);obtain ⟨u',hu',hc⟩:=h.rel (k/esz) _ (List.getElem?_eq_getElem hd) (k%esz) _ (List.getElem?_eq_getElem (by rw[hel];exact hmo));have hkk:k/esz*esz+k%esz=k:=by
  have:=Nat.div_add_mod k esz
  rw[Nat.mul_comm]at this;exact this
 rw[hkk]at hu';obtain rfl:news[k]=u':=by
  have:=(List.getElem?_eq_some_iff.1 hu').2
  exact this
 exact hc.one
theorem Elems.src {esz:Nat} {ys:List (List AV)} {ad:Option Addr} {news:List Value} (h:Elems B S m esz ys ad news) (h0:0<esz) (hz : ∀ e∈ys,e.length=esz) {t e:TypeId} (hu:P.underlying t=some (.slice e)) (cap:Nat):Src P esz t (.slice ad ys.length cap) ys.length news m.w:=by
 cases ad with
 | none =>
  have hys:ys=[]:=by
   cases ys with
   | nil=>rfl
   | cons y r=>exact absurd (h.some_ (by simp)) (by simp)
  subst hys;have hn:news=[]:=List.eq_nil_of_length_eq_zero (by simpa using h.len);subst hn;exact Src.ofNil m.w hu cap
 | some b=>exact Src.ofSlice m.w hu b ys.length cap news h.len (h.cells b rfl) (h.one h0 hz)
theorem ofSetRow_get (arr:Array Value) (off:Nat) (news:List Value) (h:off+news.length≤arr.size) (p:Nat):(arr.toList.take off++news++arr.toList.drop (off+news.length)).toArray[p]? = if p<off then arr[p]? else if p<off+news.length then news[p-off]? else arr[p]? := by
 simp only[List.getElem?_toArray];rw[splice_get _ _ _ (by simpa using h)];simp only[Array.getElem?_toList]
theorem run_app_room (t tx e ex:TypeId) (i:TypeInfo) (ht:P.underlying t=some (.slice e)) (hx:P.underlying tx=some (.slice ex)) (hi:P.info? e=some i) (g off sLen sCap:Nat) (x:Value) (n:Nat) (news:List Value) (w:World) (hs:Src P i.size tx x n news w) (hroom:sLen+n≤sCap) (arr:Array Value) (e':TypeId)
  (hh:w.heap[g]? = some (.cells arr e' (0,0))) (hsz:off+sLen*i.size+news.length≤arr.size) (ty:TypeId) :
  (Builtin.append_ #[t,tx] ty #[.slice (some ⟨g,off,none⟩) sLen sCap,x]).run P w = .ok (.slice (some ⟨g,off,none⟩) (sLen+n) sCap) (w.setRow g (arr.toList.take (off+sLen*i.size)++news++arr.toList.drop (off+sLen*i.size+news.length)).toArray):=by
 have hst:=run_storeCells_at (P:=P) g (off+sLen*i.size) e' news 0 arr w hh (by omega) hs.one;simp only[Nat.add_zero]at hst;simp [Builtin.append_,run_underlying ht,run_underlying hx,sizeOf,typeInfo,hi,hs.len,hroom,hs.cells,add_none,hst]
theorem run_app_none (t tx e ex:TypeId) (i:TypeInfo) (ht:P.underlying t=some (.slice e)) (hx:P.underlying tx=some (.slice ex)) (hi:P.info? e=some i) (ad:Option Addr) (sCap:Nat) (x:Value) (w:World) (hs:Src P i.size tx x 0 [] w) (ty:TypeId) :
  (Builtin.append_ #[t,tx] ty #[.slice ad 0 sCap,x]).run P w = .ok (.slice ad 0 sCap) w:=by
 have hc:=hs.cells;cases ad<;>simp [Builtin.append_,run_underlying ht,run_underlying hx,sizeOf,typeInfo,hi,hs.len,hc,storeCells]
theorem run_exec_app {x y:Operand} {t tx:TypeId} (hop:o.op = .call ⟨.builtin .append,#[x,y],#[t,tx]⟩) {u:Value} {w w':World} (h:(Builtin.append_ #[t,tx] o.type #[a.eval x,a.eval y]).run P w = .ok u w'):(execOp a.eval o).run P w = .ok (.value u) w':=by
 simp [execOp,hop,resolve,invoke,builtin,h]
theorem grown_get (olds news:List Value) (z:Array Value) (k p:Nat) (h:p<olds.length+news.length):((olds++news).toArray++Builtin.zeroCells z k)[p]? = (olds++news)[p]? := by
 rw[Array.getElem?_append_left (by simpa using h)];simp
theorem rel_append {esz len:Nat} {xs ys:List (List AV)} {olds news:List Value} (hxl:xs.length=len) (hol:olds.length=len*esz) (hzx : ∀ e∈xs,e.length=esz)
  (hx : ∀ i cs,xs[i]? = some cs → ∀ j c,cs[j]? = some c → ∃ u,olds[i*esz+j]? = some u∧CC B S m c u)
  (hy : ∀ i cs,ys[i]? = some cs → ∀ j c,cs[j]? = some c → ∃ u,news[i*esz+j]? = some u∧CC B S m c u) :
  ∀ i cs,(xs++ys)[i]? = some cs → ∀ j c,cs[j]? = some c → ∃ u,(olds++news)[i*esz+j]? = some u∧CC B S m c u:=by
 intro i cs hi j c hj;by_cases hil:i<len
 ·rw[List.getElem?_append_left (by omega)]at hi
  obtain ⟨u,hu,hc⟩:=hx i cs hi j c hj;exact ⟨u,by rw[List.getElem?_append_left (by have:=(List.getElem?_eq_some_iff.1 hu).1;omega)];exact hu,hc⟩
 ·rw[List.getElem?_append_right (by omega),hxl]at hi
  obtain ⟨u,hu,hc⟩:=hy (i-len) cs hi j c hj;refine ⟨u,?_,hc⟩;have e1:i*esz=len*esz+(i-len)*esz:=by rw[←Nat.add_mul];congr 1;omega
  rw[List.getElem?_append_right (by omega),←hu];congr 1;omega
theorem move_row {s z n cap:Nat} (hlo:s<mapLo) {es:List (List AV)} {w':World} {g t:Nat} {arr:Array Value} {e:TypeId} (hz:0<z) (hn:n≤cap) (hg:w'.heap[g]? = some (.cells arr e (0,0))) (hc:cap*z≤arr.size) :
  CV B S ⟨newν m s (some g),m.own.put s (((m.own s).upd t none).new ⟨z,es⟩),w'⟩ (.row s (m.own.cnt s) z 0 n) (.slice (some ⟨g,0,none⟩) n cap):=by
 refine .ca (.one (.row s (m.own.cnt s) z 0 n _ cap ?_ hz hn (fun _=>rfl) (fun b' hb'=>⟨?_,.inr ⟨g,arr,e,?_,by simp,hg,by simpa using hc⟩⟩) hlo))
 ·show _<Own.cnt _ s
  rw[cnt_move];simp
 ·change Own.get _ s _=some b' at hb'
  rw[get_move,if_pos ⟨rfl,rfl⟩]at hb';obtain rfl:(⟨z,es⟩:Blk)=b':=by simpa using hb'
  rfl
 ·simp [newν]
theorem below_drew_alloc (hm:MemOK B S w0 m) (ob:Obj):Bel w0.D B w0.w (m.w.drew.alloc ob):=hm.below.drew.alloc (by simpa using hm.size) ob
theorem do_app_row (hm:MemOK B S w0 m) (hs:Says B S m ρ a.eval) {s esz bytes:Nat} {x' y':Opd} (h:okOp P num o.op (.app s esz bytes x' y')=true) {ys:List (List AV)} (hy:elemsOf m.own (ρ y')=some ys) (hz : ∀ e∈ys,e.length=esz) {s' t len:Nat} {b:Blk} (hx:ρ x' = .row s' t esz 0 len) (hget:m.own.get s' t=some b)
  (hbz:b.esz=esz) (hle:len≤b.es.length) (hroom:(len+ys.length)*bytes≤roomMax) (h63:len+ys.length≤9223372036854775807) :
  Does B S w0 P o a m (.tur (.row s' (m.own.cnt s') esz 0 (len+ys.length)) (m.own.put s' (((m.own s').upd t none).new ⟨esz,b.es.take len++ys⟩))):=by
 obtain ⟨x,y,ty,e,i,z,tx,ex,hop,h1,h2,hu,hi,hsz,hby,hz0,hzz,hne,hux⟩:=inv_app h;have h0:0<esz:=Nat.pos_of_ne_zero hne;obtain ⟨ad,cap,hev,ht,_,hlc,ha,hb⟩:=cv_row (hx ▸ hs x x' h1);obtain ⟨yad,ycap,news,hyv,hel⟩:=elems_of hm (hs y y' h2) hy hz h0;have hsrc:Src P i.size tx (.slice yad ys.length ycap) ys.length news m.w:=by rw[hsz];exact hel.src h0 hz hux ycap
 have hlo:=cv_row_lo (hx ▸ hs x x' h1);obtain ⟨hbb,hmat⟩:=hm.blkC hget hlo;obtain ⟨_,hor⟩:=hb b hget;have htl:(b.es.take len).length=len:=by simp;omega
 have hzall : ∀ q∈b.es.take len++ys,q.length=esz:=fun q hq=>by
  rcases List.mem_append.1 hq with hq|hq
  ·rw[←hbz];exact hbb q (List.mem_of_mem_take hq)
  ·exact hz q hq
 intro K Q hK;by_cases hfit:len+ys.length≤cap
 ·rcases hor with ⟨hl0,hc0⟩|⟨g,arr,e',hg,hae,hh,hcz⟩
  ·have hys:ys=[]:=List.eq_nil_of_length_eq_zero (by omega)
   subst hys;subst hl0 hc0;have hn0:news=[]:=List.eq_nil_of_length_eq_zero (by simpa using hel.len);subst hn0;have hrun:=run_app_none ty tx e ex i hu hux hi ad 0 (.slice yad 0 ycap) m.w (by simpa using hsrc) o.type;obtain ⟨k1,k2⟩:=move_ok hm s' t hlo b ⟨esz,b.es.take 0++[]⟩ hget none m.w hm.below (Nat.le_refl _) (fun _ _ _=>rfl) (by simp) (by simp) (by simp);refine wp_of_run (run_exec_app hop (by rw[hev,hyv];simpa using hrun)) (hK _ ⟨newν m s' none,m.own.put s' (((m.own s').upd t none).new ⟨esz,b.es.take 0++[]⟩),m.w⟩ rfl k1 k2 (.ca (.one (.row s' (m.own.cnt s') esz 0 0 ad 0 ?_ h0 (Nat.le_refl _) (fun h=>by omega) (fun b' hb'=>⟨?_,.inl ⟨rfl,rfl⟩⟩) hlo))))
   ·show _<Own.cnt _ s'
    rw[cnt_move];simp
   ·change Own.get _ s' _=some b' at hb'
    rw[get_move,if_pos ⟨rfl,rfl⟩]at hb';obtain rfl:(⟨esz,b.es.take 0++[]⟩:Blk)=b':=by simpa using hb'
    rfl
  ·have hae':ad=some ⟨g,0,none⟩:=by simpa using hae
   rw[hg]at hmat;obtain ⟨hB,arr2,e2,hh2,hcc⟩:=hmat;rw[hh]at hh2;obtain ⟨rfl,rfl⟩:arr=arr2∧e'=e2:=by simpa using hh2
   have hnl:news.length=ys.length*esz:=hel.len;have hbound:len*esz+news.length≤arr.size:=by
    have:(len+ys.length)*esz≤(0+cap)*esz:=Nat.mul_le_mul_right _ (by omega)
    rw[Nat.add_mul]at this;omega
   have hrun:=run_app_room ty tx e ex i hu hux hi g 0 len cap (.slice yad ys.length ycap) ys.length news m.w hsrc hfit arr e' hh (by rw[hsz];omega) o.type;rw[hsz,Nat.zero_add]at hrun;generalize harr':(arr.toList.take (len*esz)++news++arr.toList.drop (len*esz+news.length)).toArray=arr' at hrun;have hg' : ∀ p,arr'[p]? = if p<len*esz then arr[p]? else if p<len*esz+news.length then news[p-len*esz]? else arr[p]? := fun p=>by rw[←harr'];exact ofSetRow_get arr (len*esz) news hbound p
   have hsize':arr'.size=arr.size:=by rw[←harr'];simp;omega
   obtain ⟨k1,k2⟩:=move_ok hm s' t hlo b ⟨esz,b.es.take len++ys⟩ hget (some g) (m.w.setRow g arr') (below_setRow hm hB arr') (by simp) (fun k _ hne'=>setRow_other _ _ _ _ (fun e=>hne' (e ▸ hg))) hzall (by simp) (fun g' hg2=>by
    obtain rfl:g=g':=by simpa using hg2
    refine ⟨hB,.inr hg,arr',e',setRow_heap _ _ _ _ _ _ hh,fun i' cs hi' j c hj => ?_⟩;show ∃ u,arr'[i'*esz+j]? = some u∧_;by_cases hil:i'<len
    ·rw[List.getElem?_append_left (by omega),List.getElem?_take,if_pos hil]at hi'
     have hjl:j<esz:=by rw[←hbz,←hbb cs (List.mem_of_getElem? hi')];exact (List.getElem?_eq_some_iff.1 hj).1
     obtain ⟨u,hu',hcu⟩:=hcc i' cs hi' j c hj;refine ⟨u,?_,hcu⟩;have:(i'+1)*esz≤len*esz:=Nat.mul_le_mul_right _ hil
     rw[Nat.succ_mul]at this;rw[hg',if_pos (by omega),←hu',hbz]
    ·rw[List.getElem?_append_right (by omega),htl]at hi'
     obtain ⟨u,hu',hcu⟩:=hel.rel (i'-len) cs hi' j c hj;refine ⟨u,?_,hcu⟩;have hul:=(List.getElem?_eq_some_iff.1 hu').1;have e1:i'*esz=len*esz+(i'-len)*esz:=by rw[←Nat.add_mul];congr 1;omega
     rw[hg',if_neg (by omega),if_pos (by omega),←hu'];congr 1;omega)
   exact wp_of_run (run_exec_app hop (by rw[hev,hyv,hae'];exact hrun)) (hK _ ⟨newν m s' (some g),m.own.put s' (((m.own s').upd t none).new ⟨esz,b.es.take len++ys⟩),m.w.setRow g arr'⟩ rfl k1 k2 (move_row hlo h0 hfit (setRow_heap _ _ _ _ _ _ hh) (by rw[hsize'];simpa using hcz)))
 ·have hgrow:cap<len+ys.length:=by omega
  obtain ⟨olds,hol,hold,hrel⟩ : ∃ olds:List Value,olds.length=len*esz∧(Builtin.firstCells i.size len (.slice ad len cap)).run P m.w.drew = .ok olds.toArray m.w.drew∧(∀ i' cs,(b.es.take len)[i']? = some cs → ∀ j c,cs[j]? = some c → ∃ u,olds[i'*esz+j]? = some u∧CC B S m c u):=by
   rcases hor with ⟨hl0,hc0⟩|⟨g,arr,e',hg,hae,hh,hcz⟩
   ·subst hl0
    refine ⟨[],by simp,?_,fun i' cs hi'=>by simp at hi'⟩;cases ad with
    | none=>exact run_firstCells_none m.w.drew i.size 0 0 cap
    | some ad'=>exact run_firstCells_some m.w.drew i.size 0 ad' 0 cap [] (by simp) (fun j v hv=>by simp at hv)
   ·have hae':ad=some ⟨g,0,none⟩:=by simpa using hae
    rw[hg]at hmat;obtain ⟨hB,arr2,e2,hh2,hcc⟩:=hmat;rw[hh]at hh2;obtain ⟨rfl,rfl⟩:arr=arr2∧e'=e2:=by simpa using hh2
    have hcl:len*esz≤arr.size:=by
     have:len*esz≤(0+cap)*esz:=Nat.mul_le_mul_right _ (by omega)
     omega
    refine ⟨arr.toList.take (len*esz),by simp;omega,?_,fun i' cs hi' j c hj => ?_⟩
    ·rw[hae']
     refine run_firstCells_some m.w.drew i.size len ⟨g,0,none⟩ len cap _ (by rw[hsz];simp;omega) (fun j v hv => ?_);rw[List.getElem?_take]at hv;split at hv
     ·rw[add_none,cell_at (w:=m.w.drew) (show m.w.heap[g]? = _ from hh)]
      simpa using hv
     ·cases hv
    ·rw[List.getElem?_take]at hi'
     split at hi'
     ·rename_i hil
      have hjl:j<esz:=by rw[←hbz,←hbb cs (List.mem_of_getElem? hi')];exact (List.getElem?_eq_some_iff.1 hj).1
      obtain ⟨u,hu',hcu⟩:=hcc i' cs hi' j c hj;refine ⟨u,?_,hcu⟩;have:(i'+1)*esz≤len*esz:=Nat.mul_le_mul_right _ hil
      rw[Nat.succ_mul]at this;rw[List.getElem?_take,if_pos (by omega),←hu',hbz];simp
     ·cases hi'
  have hrun:=run_append_grow_src (P:=P) m.w ty tx o.type e i z hu hi hz0 ad len cap olds hold (.slice yad ys.length ycap) ys.length news hsrc hgrow (by omega) (growslice_fits hgrow (by rw[hby];exact hroom));have hnl:news.length=ys.length*esz:=hel.len;have hcap:len+ys.length≤grownCap m.w (len+ys.length) cap e:=grownCap_ge _ _ _ _;generalize hgc:grownCap m.w (len+ys.length) cap e=gc at hrun hcap;have hbel:=below_drew_alloc hm (.cells ((olds++news).toArray++Builtin.zeroCells z.cells (gc-(len+ys.length))) e);have hnew:(m.w.drew.alloc (.cells ((olds++news).toArray++Builtin.zeroCells z.cells (gc-(len+ys.length))) e)).heap[m.w.heap.size]? = some (.cells ((olds++news).toArray++Builtin.zeroCells z.cells (gc-(len+ys.length))) e (0,0)):=heap_alloc_new m.w.drew _;obtain ⟨k1,k2⟩:=move_ok hm s' t hlo b ⟨esz,b.es.take len++ys⟩ hget (some m.w.heap.size) _ hbel (by simp) (fun k hk _=>Below.heap_alloc m.w.drew _ k hk) hzall (by simp) (fun g' hg2=>by
   obtain rfl:m.w.heap.size=g':=by simpa using hg2
   refine ⟨hm.size,.inl (Nat.le_refl _),_,e,hnew,fun i' cs hi' j c hj => ?_⟩;obtain ⟨u,hu',hcu⟩:=rel_append htl hol (fun q hq=>by rw[←hbz];exact hbb q (List.mem_of_mem_take hq)) hrel hel.rel i' cs hi' j c hj;refine ⟨u,?_,hcu⟩;rw[grown_get _ _ _ _ _ (by have:=(List.getElem?_eq_some_iff.1 hu').1;simpa using this)];exact hu')
  refine wp_of_run (run_exec_app hop (by rw[hev,hyv];exact hrun)) (hK _ ⟨newν m s' (some m.w.heap.size),m.own.put s' (((m.own s').upd t none).new ⟨esz,b.es.take len++ys⟩),_⟩ rfl k1 k2 (move_row hlo h0 hcap hnew ?_));have hzc:(Builtin.zeroCells z.cells (gc-(len+ys.length))).size=(gc-(len+ys.length))*esz:=by simp [Builtin.zeroCells,hzz]
  rw[Array.size_append,hzc];simp only[List.size_toArray,List.length_append,hol,hnl];rw[←Nat.add_mul,←Nat.add_mul];exact Nat.mul_le_mul_right _ (by omega)
theorem do_app_nil (hm:MemOK B S w0 m) (hs:Says B S m ρ a.eval) {s esz bytes:Nat} (hlo:s<mapLo) {x' y':Opd} (h:okOp P num o.op (.app s esz bytes x' y')=true) {ys:List (List AV)} (hy:elemsOf m.own (ρ y')=some ys) (hz : ∀ e∈ys,e.length=esz) (hx:ρ x' = .nil)
  (hroom:ys.length*bytes≤roomMax) (h63:ys.length≤9223372036854775807) :
  Does B S w0 P o a m (.tur (.row s (m.own.cnt s) esz 0 ys.length) (m.own.put s ((m.own s).new ⟨esz,ys⟩))):=by
 obtain ⟨x,y,ty,e,i,z,tx,ex,hop,h1,h2,hu,hi,hsz,hby,hz0,hzz,hne,hux⟩:=inv_app h;have h0:0<esz:=Nat.pos_of_ne_zero hne;have hev:=cv_nil (hx ▸ hs x x' h1);obtain ⟨yad,ycap,news,hyv,hel⟩:=elems_of hm (hs y y' h2) hy hz h0;have hsrc:Src P i.size tx (.slice yad ys.length ycap) ys.length news m.w:=by rw[hsz];exact hel.src h0 hz hux ycap
 intro K Q hK;by_cases hys:ys=[]
 ·subst hys
  have hn0:news=[]:=List.eq_nil_of_length_eq_zero (by simpa using hel.len);subst hn0;have hrun:=run_app_none ty tx e ex i hu hux hi none 0 (.slice yad 0 ycap) m.w (by simpa using hsrc) o.type;obtain ⟨k1,k2⟩:=vir_ok hm s esz hlo;refine wp_of_run (run_exec_app hop (by rw[hev,hyv];simpa using hrun)) (hK _ ⟨newν m s none,m.own.put s ((m.own s).new ⟨esz,[]⟩),m.w⟩ rfl k1 k2 (.ca (.one (.row s (m.own.cnt s) esz 0 0 none 0 ?_ h0 (Nat.le_refl _) (fun h=>by omega) (fun b' hb'=>⟨?_,.inl ⟨rfl,rfl⟩⟩) hlo))))
  ·show _<Own.cnt _ s
   rw[cnt_new];simp
  ·change Own.get _ s _=some b' at hb'
   rw[get_new,if_pos ⟨rfl,rfl⟩]at hb';obtain rfl:(⟨esz,[]⟩:Blk)=b':=by simpa using hb'
   rfl
 ·have hpos:0<ys.length:=List.length_pos_iff.2 hys
  have hrun:=run_append_grow_src (P:=P) m.w ty tx o.type e i z hu hi hz0 none 0 0 [] (run_firstCells_none m.w.drew i.size 0 0 0) (.slice yad ys.length ycap) ys.length news hsrc (by omega) (by omega) (growslice_fits (by omega) (by rw[hby,Nat.zero_add];exact hroom));simp only[Nat.zero_add,List.nil_append]at hrun;have hnl:news.length=ys.length*esz:=hel.len;have hcap:ys.length≤grownCap m.w ys.length 0 e:=grownCap_ge _ _ _ _;generalize hgc:grownCap m.w ys.length 0 e=gc at hrun hcap;have hd:Bel w0.D m.w.heap.size m.w m.w.drew:=(Bel.refl _ _ _).drew;obtain ⟨hm1,he1⟩:=grow hm hd;obtain ⟨k1,k2⟩:=alloc_ok hm1 s hlo ⟨esz,ys⟩ (news.toArray++Builtin.zeroCells z.cells (gc-ys.length)) e hz (fun i' cs hi' j c hj=>by
   obtain ⟨u,hu',hcu⟩:=hel.rel i' cs hi' j c hj;refine ⟨u,?_,he1.cc hcu⟩;have hul:=(List.getElem?_eq_some_iff.1 hu').1;show (news.toArray++Builtin.zeroCells z.cells (gc-ys.length))[i'*esz+j]? = some u;rw[Array.getElem?_append_left (by simpa using hul)];simpa using hu')
  have hzc:(Builtin.zeroCells z.cells (gc-ys.length)).size=(gc-ys.length)*esz:=by simp [Builtin.zeroCells,hzz]
  refine wp_of_run (run_exec_app hop (by rw[hev,hyv];exact hrun)) (hK _ ⟨newν ⟨m.ν,m.own,m.w.drew⟩ s (some m.w.drew.heap.size),m.own.put s ((m.own s).new ⟨esz,ys⟩),_⟩ rfl k1 (he1.trans k2) (new_row (m:=⟨m.ν,m.own,m.w.drew⟩) hlo h0 hcap (heap_alloc_new m.w.drew _) ?_));rw[Array.size_append,hzc];simp only[List.size_toArray,hnl];rw[←Nat.add_mul];exact Nat.mul_le_mul_right _ (by omega)
end
end Go.Eng

namespace Go.Eng
open Go.RowKit
section
variable {B:Nat} {S:Nat→Prop} {w0:Base} {m:M}
variable {P:Program} {num:Nat→Nat} {o:Oper} {a:Act} {ρ:Opd→AV}
theorem upd_self (ow:Own) (s t:Nat) (b:Blk) (h:ow.get s t=some b):ow.put s ((ow s).upd t (some b))=ow:=by
 funext s'
 unfold Own.put Site.upd;by_cases hs:s'=s
 ·subst hs
  rw[if_pos rfl];unfold Own.get at h;cases hx:ow s' with
  | mk c f =>
   rw[hx]at h;simp only at h;congr;funext t'
   by_cases ht:t'=t
   ·subst ht;simp [h]
   ·simp [ht]
 ·simp [hs]
structure Keep where
 b0:Nat
 ok:World→Prop
 D:Prop
 size : ∀ w,ok w→b0≤w.heap.size
 keep : ∀ w w',ok w→Below b0 w w'→ok w'
def Keep.triv (D:Prop):Keep:=⟨0,fun _=>True,D,fun _ _=>Nat.zero_le _,fun _ _ _ _=>trivial⟩
def CmpsOK (P:Program) (num:Nat→Nat) (cmp:Nat→List AV→Option AV):Prop := ∀ (f:Nat) (vs:List AV) (r:AV),cmp f vs=some r→(∀ (us:Array Value) (w:World),(callFunc (num f) us).run P w = .ok (.enter (num f) us) w) ∧
 ∀ (S:Nat→Prop) (w:World) (us:List Value),vs.length=us.length→(∀ (j:Nat) (c:AV) (v:Value),vs[j]? = some c→us[j]? = some v→CA w.heap.size S ⟨fun _ _=>none,Own.emp,w⟩ c v) →
  Calls P (num f) us.toArray w fun e w' => ∃ u,e = .returned u∧Bel True w.heap.size w w'∧CV w.heap.size S ⟨fun _ _=>none,Own.emp,w'⟩ r u
def ltC {α:Type} (cf:α→α→Int) (x y:α):Bool:=decide (cf x y<0)
def flatC {α:Type} [Inhabited α] (enc:α→List Value) (k:Nat) (d:Array α):Array Value:=(Array.range (d.size*k)).map fun t=>(enc d[t/k]!)[t%k]!
def srtW {α:Type} [Inhabited α] (enc:α→List Value) (k:Nat) (w:World) (blk off m:Nat) (dk:Array α) (os:Array Obj):World:=Sort.grow (Sort.putRow id (Sort.ahead w m) blk off (flatC enc k dk)) os
open Go.Sort in
def SortsAt (P:Program) (n k:Nat):Prop:=(∀ (us:Array Value) (w:World),(callFunc n us).run P w = .ok (.enter n us) w) ∧
 (∀ (p:Option Addr) (cap:Nat) (fv:Value) (w:World),Calls P n #[.slice p 0 cap,fv] w fun e w'=>e = .returned (.tuple #[])∧w'=w) ∧
 ∀ (N:Nat) (enc:Fin (N+1)→List Value),(∀ x,(enc x).length=k)→(∀ x,∀ v∈enc x,v.oneCell'=true) → ∀ (cf:Fin (N+1)→Fin (N+1)→Int),SWO (ltC cf) → ∀ (g blk off cap:Nat) (d:Array (Fin (N+1))) (w:World),
  (∀ args w,(callFunc g args).run P w = .ok (.enter g args) w) →
  (∀ (m:Nat) (os:Array Obj) (dk:Array (Fin (N+1))),dk.size=d.size → ∀ x y:Fin (N+1),Calls P g (#[.agg (enc x).toArray,.agg (enc y).toArray] ++ #[]) (srtW enc k w blk off m dk os) fun e w'=>e = .returned (.int .i64 (cf x y)) ∧ ∃ q os',w'=Sort.grow ((srtW enc k w blk off m dk os).drewN q) os') →
  Holds id w blk off (flatC enc k d)→blk<w.heap.size→d.size<4611686018427387904→(∀ x y,(ltC cf) x y=false→(ltC cf) y x=false→x=y) →
  Calls P n #[.slice (some ⟨blk,off,none⟩) d.size cap,.func (.func g) #[] #[]] w fun e w' =>
   e = .returned (.tuple #[]) ∧ ∃ n os,w'=srtW enc k w blk off n (d.toList.mergeSort fun x y => !(ltC cf) y x).toArray os
structure CallsOK (I:Keep) (P:Program) (num:Nat→Nat) (C:Cl):Prop where
 enterP : ∀ (f:Nat) (vs:List AV) (r:AV),C.pure f vs=some r → ∀ (us:Array Value) (w:World),(callFunc (num f) us).run P w = .ok (.enter (num f) us) w
 enterI : ∀ (f:Nat) (vs:List AV) (own:Own) (r:AV × Own),C.inn f vs own=some r → ∀ (us:Array Value) (w:World),(callFunc (num f) us).run P w = .ok (.enter (num f) us) w
 pure : ∀ (f:Nat) (vs:List AV) (r:AV),C.pure f vs=some r → ∀ (S:Nat→Prop) (w:World) (us:List Value),I.ok w→vs.length=us.length→(∀ (j:Nat) (c:AV) (v:Value),vs[j]? = some c→us[j]? = some v→CA w.heap.size S ⟨fun _ _=>none,Own.emp,w⟩ c v) →
  Calls P (num f) us.toArray w fun e w' => ∃ u,e = .returned u∧Bel I.D w.heap.size w w'∧CV w.heap.size S ⟨fun _ _=>none,Own.emp,w'⟩ r u∧Clean r
 inn : ∀ (f:Nat) (vs:List AV) (own:Own) (r:AV) (own':Own),C.inn f vs own=some (r,own') → ∀ (B:Nat) (S:Nat→Prop) (w0:Base) (m:M) (us:List Value),I.b0≤B→I.ok w0.w→(w0.D→I.D)→m.own=own→MemOK B S w0 m→vs.length=us.length→(∀ (j:Nat) (c:AV) (v:Value),vs[j]? = some c→us[j]? = some v→CV B S m c v) →
  Calls P (num f) us.toArray m.w fun e w' => ∃ u m',e = .returned u∧m'.w=w'∧m'.own=own'∧MemOK B S w0 m'∧Ext B S m m'∧CV B S m' r u
 cmp:CmpsOK P num C.cmp
 srt : ∀ (fs k:Nat),C.srts fs=some k→SortsAt P (num fs) k
 num:C.num=num
structure CallsAt (I:Keep) (P:Program) (num:Nat→Nat) (C:Cl) (B:Nat) (w0:Base):Prop where
 c:CallsOK I P num C
 hB:I.b0≤B
 hw:I.ok w0.w
 hD:w0.D→I.D
theorem CallsAt.ok {I:Keep} {P:Program} {num:Nat→Nat} {C:Cl} {B:Nat} {S:Nat→Prop} {w0:Base} {m:M} (h:CallsAt I P num C B w0) (hm:MemOK B S w0 m):I.ok m.w:=I.keep _ _ h.hw (hm.below.toBelow.mono h.hB)
end
end Go.Eng

namespace Go.Eng
open Go.RowKit
theorem mapM_get {α β:Type} (f:α→Option β) : ∀ {l:List α} {l':List β},l.mapM f=some l'→l.length=l'.length ∧ ∀ (i:Nat) (x:α),l[i]? = some x → ∃ y,l'[i]? = some y∧f x=some y
 | [],l',h=>by
  simp at h;subst h;exact ⟨rfl,fun i x hx=>by simp at hx⟩
 | x::r,l',h=>by
  simp only[List.mapM_cons,Option.bind_eq_bind,Option.pure_def]at h;cases hx:f x with
  | none=>simp [hx]at h
  | some y =>
   cases hr:r.mapM f with
   | none=>simp [hx,hr]at h
   | some r' =>
    simp [hx,hr]at h;subst h;obtain ⟨h1,h2⟩:=mapM_get f hr;refine ⟨by simp [h1],fun i z hz => ?_⟩;cases i with
    | zero=>simp at hz;subst hz;exact ⟨y,rfl,hx⟩
    | succ i=>exact h2 i z (by simpa using hz)
section
variable {B:Nat} {S:Nat→Prop} {w0:Base} {m:M}
variable {P:Program} {num:Nat→Nat} {o:Oper} {a:Act} {ρ:Opd→AV}
theorem snap_rd (hm:MemOK B S w0 m) (l0:Bool) (R:Bool→Nat→Prop) (hR : ∀ l b,b<m.w.heap.size→safe B S m l b→R l b) (hL : ∀ s t g,live m s t→m.ν s t=some g→R l0 g) :
  ∀ (d:Nat) (c c':AV) (v:Value),snap m.own l0 d c=some c'→CC B S m c v→Rd m.w R c' v:=by
 intro d;induction d with
 | zero =>
  intro c c' v h hc;cases hc with
  | rd hr =>
   have:c'=c:=by cases hr<;>simp [snap]at h<;>exact h.symm
   subst this;exact hr.mono hR (fun _ _ _ _=>rfl)
  | nil=>simp [snap]at h;subst h;exact .sl0 _ _ _
  | _=>simp [snap]at h
 | succ d ih =>
  intro c c' v h hc;cases hc with
  | rd hr =>
   have:c'=c:=by cases hr<;>simp [snap]at h<;>exact h.symm
   subst this;exact hr.mono hR (fun _ _ _ _=>rfl)
  | nil=>simp [snap]at h;subst h;exact .sl0 _ _ _
  | ptr=>simp [snap]at h
  | mp=>simp [snap]at h
  | dptr=>simp [snap]at h
  | row s t z off len ad cap ht hz0 hlc ha hb hlo =>
   simp only[snap]at h;cases hel:elemsOf m.own (.row s t z off len) with
   | none=>simp [hel]at h
   | some es =>
    simp only[hel]at h;cases hes:es.mapM (fun cs:List AV=>cs.mapM (snap m.own l0 d)) with
    | none=>simp [hes]at h
    | some es' =>
     simp [hes]at h;subst h;have hzes:(∀ e∈es,e.length=z)∧es.length=len ∧ ∃ b,m.own.get s t=some b:=by
      simp only[elemsOf]at hel;cases hget:m.own.get s t with
      | none=>simp [hget]at hel
      | some b =>
       simp only[hget]at hel;split at hel
       ·rename_i hle
        obtain rfl:=Option.some.inj hel;refine ⟨fun e he => ?_,by simp;omega,b,rfl⟩;rw[←hle.2];exact (hm.blkC hget hlo).1 e (List.mem_of_mem_drop (List.mem_of_mem_take he))
       ·cases hel
     obtain ⟨hz,hlen,b,hget⟩:=hzes;have hcv:CV B S m (.row s t z off len) (.slice ad len cap):= .ca (.one (.row s t z off len ad cap ht hz0 hlc ha hb hlo));obtain ⟨ad2,cap2,news,hv2,hE⟩:=elems_of hm hcv hel hz hz0;obtain ⟨rfl,_,rfl⟩:ad=ad2∧len=es.length∧cap=cap2:=by simpa using hv2
     obtain ⟨hl1,hget1⟩:=mapM_get _ hes;by_cases h0:es=[]
     ·subst h0
      have:es'=[]:=List.eq_nil_of_length_eq_zero (by rw[←hl1];rfl)
      subst this;have:len=0:=by rw[←hlen];rfl
      subst this;exact .sl0 _ _ _
     ·obtain ⟨_,hor⟩:=hb b hget
      rcases hor with ⟨hl0',_⟩|⟨g,arr,e',hg,hae,hh,hcz⟩
      ·exact absurd (List.eq_nil_of_length_eq_zero (by omega)) h0
      ·rw[hae,←hlen,hl1]
       refine .sl l0 es' g (off*z) z cap (fun i j=>news.getD (i*z+j) undef) (fun e=>h0 (List.eq_nil_of_length_eq_zero (by rw[hl1,e];rfl))) hz0 (hL s t g ⟨b,hget⟩ hg) (by omega) (fun e' he' => ?_) (fun i e hi j c hj => ?_) (fun i e hi j c hj => ?_)
       ·obtain ⟨i,hi,rfl⟩:=List.getElem_of_mem he'
        have hi':i<es.length:=by omega
        obtain ⟨y,hy,hfy⟩:=hget1 i es[i] (List.getElem?_eq_getElem hi');have:es'[i]=y:=by
         have:=(List.getElem?_eq_some_iff.1 hy).2;exact this
        rw[this,←(mapM_get _ hfy).1];exact hz _ (List.getElem_mem hi')
       ·have hi':i<es.length:=by rw[hl1];exact (List.getElem?_eq_some_iff.1 hi).1
        obtain ⟨y,hy,hfy⟩:=hget1 i es[i] (List.getElem?_eq_getElem hi');rw[hi]at hy;obtain rfl:e=y:=by simpa using hy
        obtain ⟨hl2,_⟩:=mapM_get _ hfy;have hj':j<(es[i]).length:=by rw[hl2];exact (List.getElem?_eq_some_iff.1 hj).1
        obtain ⟨u,hu,hcu⟩:=hE.rel i es[i] (List.getElem?_eq_getElem hi') j _ (List.getElem?_eq_getElem hj');have:=hE.cells _ hae (i*z+j) u hu
        rw[add_none]at this;simp only[List.getD,hu,Option.getD_some];exact this
       ·have hi':i<es.length:=by rw[hl1];exact (List.getElem?_eq_some_iff.1 hi).1
        obtain ⟨y,hy,hfy⟩:=hget1 i es[i] (List.getElem?_eq_getElem hi');rw[hi]at hy;obtain rfl:e=y:=by simpa using hy
        obtain ⟨hl2,hg2⟩:=mapM_get _ hfy;have hj':j<(es[i]).length:=by rw[hl2];exact (List.getElem?_eq_some_iff.1 hj).1
        obtain ⟨u,hu,hcu⟩:=hE.rel i es[i] (List.getElem?_eq_getElem hi') j _ (List.getElem?_eq_getElem hj');obtain ⟨c2,hc2,hs2⟩:=hg2 j _ (List.getElem?_eq_getElem hj');rw[hj]at hc2;obtain rfl:c=c2:=by simpa using hc2
        simp only[List.getD,hu,Option.getD_some];exact ih _ _ _ hs2 hcu
def DA (w:World) (R:Bool→Nat→Prop) (c:AV) (v:Value):Prop :=
 Rd w R c v ∨ ∃ (cs:List AV) (vs:List Value),c = .agg cs∧v = .agg vs.toArray∧cs.length=vs.length ∧ ∀ (j:Nat) (x:AV) (u:Value),cs[j]? = some x→vs[j]? = some u→Rd w R x u
theorem snapA_da (hm:MemOK B S w0 m) (l0:Bool) (R:Bool→Nat→Prop) (hR : ∀ l b,b<m.w.heap.size→safe B S m l b→R l b) (hL : ∀ s t g,live m s t→m.ν s t=some g→R l0 g)
  {c c':AV} {v:Value} (h:snapA m.own l0 c=some c') (hc:CV B S m c v):DA m.w R c' v:=by
 cases hc with
 | any v=>simp [snapA,snap]at h
 | tup=>simp [snapA,snap]at h
 | ca hc=>cases hc with
  | one hc =>
   have h':snap m.own l0 6 c=some c':=by
    cases hc with
    | rd hr=>cases hr<;>simpa [snapA] using h
    | _=>simpa [snapA] using h
   exact Or.inl (snap_rd hm l0 R hR hL 6 c c' v h' hc)
  | fn=>simp [snapA,snap]at h
  | fnb=>simp [snapA,snap]at h
  | agg cs vs hcl =>
   simp only[snapA]at h;cases hcs:cs.mapM (snap m.own l0 6) with
   | none=>simp [hcs]at h
   | some cs' =>
    simp [hcs]at h;subst h;obtain ⟨h1,h2⟩:=mapM_get _ hcs;refine Or.inr ⟨cs',vs,rfl,rfl,h1.symm.trans hcl.1,fun j x u hx hu => ?_⟩;have hj:j<cs.length:=by rw[h1];exact (List.getElem?_eq_some_iff.1 hx).1
    obtain ⟨y,hy,hfy⟩:=h2 j cs[j] (List.getElem?_eq_getElem hj);rw[hx]at hy;obtain rfl:x=y:=by simpa using hy
    exact snap_rd hm l0 R hR hL 6 _ _ _ hfy (hcl.2 j cs[j] u (List.getElem?_eq_getElem hj) hu)
def DV (w:World) (R:Bool→Nat→Prop) (c:AV) (v:Value):Prop :=
 DA w R c v ∨ ∃ (cs:List AV) (vs:List Value),c = .tup cs∧v = .tuple vs.toArray∧cs.length=vs.length ∧ ∀ (j:Nat) (x:AV) (u:Value),cs[j]? = some x→vs[j]? = some u→DA w R x u
theorem snapR_dv (hm:MemOK B S w0 m) (l0:Bool) (R:Bool→Nat→Prop) (hR : ∀ l b,b<m.w.heap.size→safe B S m l b→R l b) (hL : ∀ s t g,live m s t→m.ν s t=some g→R l0 g)
  {c c':AV} {v:Value} (h:snapR m.own l0 c=some c') (hc:CV B S m c v):DV m.w R c' v:=by
 by_cases ht : ∃ cs,c = .tup cs
 ·obtain ⟨cs,rfl⟩:=ht
  obtain ⟨vs,rfl,hl,hcc⟩:=cv_tup hc;simp only[snapR]at h;cases hcs:cs.mapM (snapA m.own l0) with
  | none=>simp [hcs]at h
  | some cs' =>
   simp [hcs]at h;subst h;obtain ⟨h1,h2⟩:=mapM_get _ hcs;refine Or.inr ⟨cs',vs,rfl,rfl,h1.symm.trans hl,fun j x u hx hu => ?_⟩;have hj:j<cs.length:=by rw[h1];exact (List.getElem?_eq_some_iff.1 hx).1
   obtain ⟨y,hy,hfy⟩:=h2 j cs[j] (List.getElem?_eq_getElem hj);rw[hx]at hy;obtain rfl:x=y:=by simpa using hy
   exact snapA_da hm l0 R hR hL hfy (.ca (hcc j cs[j] u (List.getElem?_eq_getElem hj) hu))
 ·have h':snapA m.own l0 c=some c':=by
   cases c<;>first|exact h|exact absurd ⟨_,rfl⟩ ht
  exact Or.inl (snapA_da hm l0 R hR hL h' hc)
theorem DA.ca {B:Nat} {S:Nat→Prop} {m:M} {c:AV} {v:Value} (h:DA m.w (safe B S m) c v):CA B S m c v:=by
 rcases h with h|⟨cs,vs,rfl,rfl,hl,hh⟩
 ·exact .one (.rd h)
 ·exact .agg cs vs ⟨hl,fun j x u hx hu => .rd (hh j x u hx hu)⟩
theorem DV.cv {B:Nat} {S:Nat→Prop} {m:M} {c:AV} {v:Value} (h:DV m.w (safe B S m) c v):CV B S m c v:=by
 rcases h with h|⟨cs,vs,rfl,rfl,hl,hh⟩
 ·exact .ca h.ca
 ·exact .tup cs vs hl fun j x u hx hu=>(hh j x u hx hu).ca
theorem cleanL_get : ∀ {cs:List AV},CleanL cs → ∀ (j:Nat) (c:AV),cs[j]? = some c→Clean c
 | [],_,j,c,h=>by simp at h
 | x::r,hc,j,c,h=>by
  unfold CleanL at hc;cases j with
  | zero=>simp at h;subst h;exact hc.1
  | succ j=>exact cleanL_get hc.2 j c (by simpa using h)
theorem cleanLL_get : ∀ {cs:List (List AV)},CleanLL cs → ∀ (j:Nat) (c:List AV),cs[j]? = some c→CleanL c
 | [],_,j,c,h=>by simp at h
 | x::r,hc,j,c,h=>by
  unfold CleanLL at hc;cases j with
  | zero=>simp at h;subst h;exact hc.1
  | succ j=>exact cleanLL_get hc.2 j c (by simpa using h)
theorem Rd.clean {w:World} {R R':Bool→Nat→Prop} (hR : ∀ b,b<w.heap.size→R false b→R' false b) {c:AV} {v:Value} (h:Rd w R c v) (hc:Clean c):Rd w R' c v:=by
 induction h with
 | int k n=>exact .int k n
 | bool b=>exact .bool b
 | str s=>exact .str s
 | nilf=>exact .nilf
 | nilm=>exact .nilm
 | sl0 l a cap=>exact .sl0 l a cap
 | emp b a cap h=>exact .emp b a cap h
 | sl l es b o esz cap u hne hp h1 hcap hz hcl hr ih =>
  unfold Clean at hc;obtain ⟨rfl,hc⟩:=hc;obtain ⟨e,c,he,hc0⟩:=first_cell hne hp hz;have hb:b<w.heap.size:=cell_lt (hcl 0 e he 0 c hc0);exact .sl false es b o esz cap u hne hp (hR b hb h1) hcap hz hcl fun i e he j c hj=>ih i e he j c hj (cleanL_get (cleanLL_get hc i e he) j c hj)
theorem DA.clean {w:World} {R R':Bool→Nat→Prop} (hR : ∀ b,b<w.heap.size→R false b→R' false b) {c:AV} {v:Value} (h:DA w R c v) (hc:Clean c):DA w R' c v:=by
 rcases h with h|⟨cs,vs,rfl,rfl,hl,hh⟩
 ·exact Or.inl (h.clean hR hc)
 ·unfold Clean at hc
  exact Or.inr ⟨cs,vs,rfl,rfl,hl,fun j x u hx hu=>(hh j x u hx hu).clean hR (cleanL_get hc j x hx)⟩
theorem DV.clean {w:World} {R R':Bool→Nat→Prop} (hR : ∀ b,b<w.heap.size→R false b→R' false b) {c:AV} {v:Value} (h:DV w R c v) (hc:Clean c):DV w R' c v:=by
 rcases h with h|⟨cs,vs,rfl,rfl,hl,hh⟩
 ·exact Or.inl (h.clean hR hc)
 ·unfold Clean at hc
  exact Or.inr ⟨cs,vs,rfl,rfl,hl,fun j x u hx hu=>(hh j x u hx hu).clean hR (cleanL_get hc j x hx)⟩
theorem cv_dv {B:Nat} {S:Nat→Prop} {m:M} {c:AV} {v:Value} (h:CV B S m c v) (hc:Clean c):DV m.w (safe B S m) c v:=by
 have one : ∀ {c:AV} {v:Value},CC B S m c v→Clean c→Rd m.w (safe B S m) c v:=fun h hc=>by
  cases h with
  | rd h=>exact h
  | _=>unfold Clean at hc;exact hc.elim
 have ca : ∀ {c:AV} {v:Value},CA B S m c v→Clean c→DA m.w (safe B S m) c v:=fun h hc=>by
  cases h with
  | one h=>exact Or.inl (one h hc)
  | fn=>unfold Clean at hc;exact hc.elim
  | fnb=>unfold Clean at hc;exact hc.elim
  | agg cs vs h =>
   unfold Clean at hc;exact Or.inr ⟨cs,vs,rfl,rfl,h.1,fun j x u hx hu=>one (h.2 j x u hx hu) (cleanL_get hc j x hx)⟩
 cases h with
 | any v=>unfold Clean at hc;exact hc.elim
 | ca h=>exact Or.inl (ca h hc)
 | tup as vs hl h =>
  unfold Clean at hc;exact Or.inr ⟨as,vs,rfl,rfl,hl,fun j x u hx hu=>ca (h j x u hx hu) (cleanL_get hc j x hx)⟩
theorem run_exec_call {f:Nat} {xs:Array Operand} {ts:Array TypeId} (hop:o.op = .call ⟨.value (.func f),xs,ts⟩) {w:World} (h:(callFunc f (xs.map a.eval)).run P w = .ok (.enter f (xs.map a.eval)) w):(execOp a.eval o).run P w = .ok (.enter f (xs.map a.eval)) w:=by
 simp [execOp,hop,resolve,Deferred.ofValue,Act.eval,invoke];exact h
theorem do_pureV {C:Cl} {I:Keep} (hC:CallsAt I P num C B w0) (hm:MemOK B S w0 m) {f:Nat} {us:List Value} {as:List AV} (hl:us.length=as.length) (hx : ∀ (j:Nat) (v:Value) (c:AV),us[j]? = some v→as[j]? = some c→CV B S m c v) (hex : ∀ w:World,(callFunc (num f) us.toArray).run P w = .ok (.enter (num f) us.toArray) w→(execOp a.eval o).run P w = .ok (.enter (num f) us.toArray) w) {vs:List AV} {r:AV} (hv:as.mapM (snapA m.own true)=some vs) (hr:C.pure f vs=some r):Does B S w0 P o a m (.val r):=by
 obtain ⟨hl2,hg2⟩:=mapM_get _ hv;have hargs : ∀ (j:Nat) (c:AV) (v:Value),vs[j]? = some c→us[j]? = some v→CA m.w.heap.size (safe B S m false) ⟨fun _ _=>none,Own.emp,m.w⟩ c v:=by
  intro j c v hc hvv;have hjl:j<as.length:=by rw[←hl];exact (List.getElem?_eq_some_iff.1 hvv).1
  obtain ⟨y,hy,hfy⟩:=hg2 j as[j] (List.getElem?_eq_getElem hjl);rw[hc]at hy;obtain rfl:c=y:=by simpa using hy
  have hcv:=hx j v as[j] hvv (List.getElem?_eq_getElem hjl);have hda:=snapA_da hm true (safe m.w.heap.size (safe B S m false) ⟨fun _ _=>none,Own.emp,m.w⟩) (fun l b hb hsf=>by
   cases l with
   | false=>exact .inl ⟨hsf,hb⟩
   | true=>exact .inr (.inr ⟨rfl,hb⟩)) (fun s t g hlv hg=>by
   obtain ⟨_,x0,hh⟩:=hm.ge hlv hg;exact .inr (.inr ⟨rfl,(Array.getElem?_eq_some_iff.1 hh).1⟩)) hfy hcv
  exact DA.ca (m:=⟨fun _ _=>none,Own.emp,m.w⟩) hda
 have hcall:=hC.c.pure f vs r hr (safe B S m false) m.w us (hC.ok hm) (by rw[←hl2];exact hl.symm) hargs;intro K Q hK;unfold Oper.wp;rw[hex _ (hC.c.enterP f vs r hr _ _)];refine Calls.mono hcall fun e w' ⟨u,he',hbel,hcv,hcl⟩ => ?_
 subst he';obtain ⟨hm',hext⟩:=grow hm (hbel.weak hC.hD);refine hK u ⟨m.ν,m.own,w'⟩ rfl hm' hext ?_;refine DV.cv (m:=⟨m.ν,m.own,w'⟩) ((cv_dv hcv hcl).clean (fun b hb hsf => ?_) hcl);rcases hsf with ⟨h1,h2⟩|⟨h1,_⟩|⟨h1,_⟩
 ·exact hext.saf false b h2 h1
 ·refine .inr (.inl ⟨Nat.le_trans hm.size h1,fun s t hlv hg => ?_⟩)
  obtain ⟨b',hb'⟩:=Option.isSome_iff_exists.1 hlv;obtain ⟨_,x0,hh⟩:=hm.ge ⟨b',hb'⟩ hg;have:=(Array.getElem?_eq_some_iff.1 hh).1
  omega
 ·cases h1
theorem do_pure {C:Cl} {I:Keep} (hC:CallsAt I P num C B w0) (hm:MemOK B S w0 m) (hs:Says B S m ρ a.eval) {f:Nat} {xs:Array Operand} {xs':List Opd} (he:eqOpds xs.toList xs'=true) (hex : ∀ w:World,(callFunc (num f) (xs.map a.eval)).run P w = .ok (.enter (num f) (xs.map a.eval)) w→(execOp a.eval o).run P w = .ok (.enter (num f) (xs.map a.eval)) w) {vs:List AV} {r:AV} (hv:(xs'.map ρ).mapM (snapA m.own true)=some vs) (hr:C.pure f vs=some r):Does B S w0 P o a m (.val r):=by
 obtain ⟨hl,hx⟩:=eqOpds_says hs he;have hmap:(xs.map a.eval)=(xs.toList.map a.eval).toArray:=by cases xs;simp
 rw[hmap]at hex;refine do_pureV hC hm (us:=xs.toList.map a.eval) (as:=xs'.map ρ) (by simp [hl]) (fun j v c h1 h2 => ?_) hex hv hr;rw[List.getElem?_map]at h1 h2;cases hxj:xs.toList[j]? with
 | none=>simp [hxj]at h1
 | some x =>
  cases hyj:xs'[j]? with
  | none=>simp [hyj]at h2
  | some y =>
   simp only[hxj,hyj,Option.map_some,Option.some.injEq]at h1 h2;subst h1 h2;exact hx j x y hxj hyj
theorem do_call {C:Cl} {I:Keep} (hC:CallsAt I P num C B w0) (hm:MemOK B S w0 m) (hs:Says B S m ρ a.eval) {f:Nat} {xs':List Opd} (h:okOp P num o.op (.call f xs')=true) {vs:List AV} {r:AV} (hv:(xs'.map ρ).mapM (snapA m.own true)=some vs) (hr:C.pure f vs=some r):Does B S w0 P o a m (.val r):=by
 obtain ⟨xs,ts,hop,he⟩:=inv_call h;exact do_pure hC hm hs he (fun w h=>run_exec_call hop h) hv hr
theorem do_calli {C:Cl} {I:Keep} (hC:CallsAt I P num C B w0) (hm:MemOK B S w0 m) (hs:Says B S m ρ a.eval) {f:Nat} {xs':List Opd} (h:okOp P num o.op (.calli f xs')=true) {r:AV} {own':Own} (hr:C.inn f (xs'.map ρ) m.own=some (r,own')):Does B S w0 P o a m (.tur r own'):=by
 obtain ⟨xs,ts,hop,he⟩:=inv_calli h;obtain ⟨hl,hx⟩:=eqOpds_says hs he;have hmap:(xs.map a.eval)=(xs.toList.map a.eval).toArray:=by cases xs;simp
 have hcall:=hC.c.inn f (xs'.map ρ) m.own r own' hr B S w0 m (xs.toList.map a.eval) hC.hB hC.hw hC.hD rfl hm (by simp [hl]) (fun j c v hc hv=>by
  rw[List.getElem?_map]at hc hv;cases hxj:xs.toList[j]? with
  | none=>simp [hxj]at hv
  | some x =>
   cases hyj:xs'[j]? with
   | none=>simp [hyj]at hc
   | some y =>
    simp [hxj]at hv;simp [hyj]at hc;subst hv hc;exact hx j x y hxj hyj)
 intro K Q hK;unfold Oper.wp;rw[run_exec_call hop (hC.c.enterI f _ _ _ hr _ _),hmap];refine Calls.mono hcall fun e w' ⟨u,m',he',hw,hown,hm',hext,hcv⟩ => ?_
 subst he' hw;exact hK u m' hown hm' hext hcv
theorem adopt_ok (hm:MemOK B S w0 m) {w':World} (hb:Bel w0.D m.w.heap.size m.w w') (s:Nat) (hlo:s<mapLo) (b:Blk) (gg:Option Nat) (hz : ∀ x∈b.es,x.length=b.esz)
  (hg:match gg with|none=>b.es=[]|some g=>m.w.heap.size≤g ∧ ∃ arr e,w'.heap[g]? = some (.cells arr e (0,0)) ∧ ∀ i cs,b.es[i]? = some cs → ∀ j c,cs[j]? = some c → ∃ u,arr[i*b.esz+j]? = some u∧CC B S ⟨newν m s gg,m.own.put s ((m.own s).new b),w'⟩ c u) :
  MemOK B S w0 ⟨newν m s gg,m.own.put s ((m.own s).new b),w'⟩∧Ext B S m ⟨newν m s gg,m.own.put s ((m.own s).new b),w'⟩:=by
 have hν : ∀ s' t',live m s' t'→newν m s gg s' t'=m.ν s' t':=fun s' t' hl=>by
  unfold newν;rw[if_neg];rintro ⟨rfl,rfl⟩
  exact not_live_cnt hm _ hl
 have hge : ∀ g,gg=some g→m.w.heap.size≤g:=fun g e=>by subst e;exact hg.1
 have he:Ext B S m ⟨newν m s gg,m.own.put s ((m.own s).new b),w'⟩:=by
  refine ext_of hm hb.size (fun k hk _=>hb.block k hk) (fun s' => ?_) (fun s' t' b' ht hb' => ?_) (fun s' t' g hl hg' hlt => ?_)
  ·rw[cnt_new];split
   ·rename_i h;subst h;omega
   ·exact Nat.le_refl _
  ·rw[get_new]at hb'
   rw[if_neg (by rintro ⟨rfl,rfl⟩;omega)]at hb';refine ⟨b',hb',rfl,hν s' t' ⟨b',hb'⟩,fun g ar e' hg' ha=>⟨ar,?_,rfl⟩⟩;exact (hb.block g (Array.getElem?_eq_some_iff.1 ha).1).trans ha
  ·obtain ⟨b',hb'⟩:=hl
   rw[get_new]at hb';by_cases h:s'=s∧t'=m.own.cnt s
   ·simp only[newν,if_pos h]at hg'
    have:=hge g hg'
    omega
   ·rw[if_neg h]at hb'
    exact ⟨s',t',⟨b',hb'⟩,by rw[←hν s' t' ⟨b',hb'⟩];exact hg'⟩
 refine ⟨⟨hm.below.trans (hb.mono hm.size),Nat.le_trans hm.size hb.size,fun s' t' ht => ?_,fun s' t' b' hb' => ?_,fun s1 t1 s2 t2 b1 b2 g h1 h2 g1 g2 => ?_⟩,he⟩
 ·rw[cnt_new]at ht
  rw[get_new,if_neg]
  ·refine hm.fresh s' t' ?_
   split at ht
   ·rename_i h;subst h;omega
   ·exact ht
  ·rintro ⟨rfl,rfl⟩
   simp at ht;omega
 ·rw[get_new]at hb'
  by_cases h:s'=s∧t'=m.own.cnt s
  ·rw[if_pos h]at hb'
   obtain rfl:b=b':=by simpa using hb'
   refine ⟨fun _=>⟨hz,?_⟩,fun hge=>by have:=h.1;omega⟩;show match newν m s gg s' t' with|none=>_|some g=>_
   rw[show newν m s gg s' t'=gg by simp [newν,h]];cases gg with
   | none=>exact hg
   | some g=>exact ⟨Nat.le_trans hm.size hg.1,hg.2⟩
  ·rw[if_neg h]at hb'
   exact (hm.blk s' t' b' hb').ext he (hν s' t' ⟨b',hb'⟩) fun g x _ hx=>(hb.block g (Array.getElem?_eq_some_iff.1 hx).1).trans hx
 ·rw[get_new]at h1 h2
  have lt : ∀ s' t' b',m.own.get s' t'=some b'→newν m s gg s' t'=some g→g<m.w.heap.size:=fun s' t' b' hb' hg'=>by
   rw[hν s' t' ⟨b',hb'⟩]at hg';obtain ⟨_,x0,h4⟩:=hm.ge ⟨b',hb'⟩ hg';exact (Array.getElem?_eq_some_iff.1 h4).1
  have at_ : ∀ s' t',s'=s∧t'=m.own.cnt s→newν m s gg s' t'=some g→m.w.heap.size≤g:=fun s' t' h hg'=>by
   simp only[newν,if_pos h]at hg';exact hge g hg'
  by_cases p1:s1=s∧t1=m.own.cnt s<;>by_cases p2:s2=s∧t2=m.own.cnt s
  ·exact ⟨p1.1.trans p2.1.symm,p1.2.trans p2.2.symm⟩
  ·rw[if_neg p2]at h2
   have:=lt s2 t2 b2 h2 g2
   have:=at_ s1 t1 p1 g1
   omega
  ·rw[if_neg p1]at h1
   have:=lt s1 t1 b1 h1 g1
   have:=at_ s2 t2 p2 g2
   omega
  ·rw[if_neg p1]at h1
   rw[if_neg p2]at h2;exact hm.inj s1 t1 s2 t2 b1 b2 g h1 h2 (by rw[←hν s1 t1 ⟨b1,h1⟩];exact g1) (by rw[←hν s2 t2 ⟨b2,h2⟩];exact g2)
theorem do_callr {C:Cl} {I:Keep} (hC:CallsAt I P num C B w0) (hm:MemOK B S w0 m) (hs:Says B S m ρ a.eval) {s f:Nat} (hlo:s<mapLo) {xs':List Opd} (h:okOp P num o.op (.callr s f xs')=true) {vs:List AV} (hv:(xs'.map ρ).mapM (snapN m.own true)=some vs) {z:Nat} {es:List (List AV)} (hr:adoptR (C.inn f vs Own.emp)=some (z,es)) :
  Does B S w0 P o a m (.new s ⟨z,es⟩ (fun t => .row s t z 0 es.length)):=by
 obtain ⟨xs,ts,hop,he⟩:=inv_call (inv_callr h);obtain ⟨s0,t0,o',b0,hin,hget,rfl,hcl⟩:=adoptR_inv hr;obtain ⟨hl,hx⟩:=eqOpds_says hs he;obtain ⟨hl2,hg2⟩:=mapM_get _ hv;have hmap:(xs.map a.eval)=(xs.toList.map a.eval).toArray:=by cases xs;simp
 have hargs : ∀ (j:Nat) (c:AV) (v:Value),vs[j]? = some c→(xs.toList.map a.eval)[j]? = some v→CV m.w.heap.size (safe B S m false) ⟨fun _ _=>none,Own.emp,m.w⟩ c v:=by
  intro j c v hc hvv;rw[List.getElem?_map]at hvv;cases hxj:xs.toList[j]? with
  | none=>simp [hxj]at hvv
  | some x =>
   simp [hxj]at hvv;subst hvv;have hjl:j<xs'.length:=by rw[←hl];exact (List.getElem?_eq_some_iff.1 hxj).1
   obtain ⟨y,hy,hfy⟩:=hg2 j (ρ xs'[j]) (by rw[List.getElem?_map,List.getElem?_eq_getElem hjl];rfl);rw[hc]at hy;obtain rfl:c=y:=by simpa using hy
   have hcv:=hx j x xs'[j] hxj (List.getElem?_eq_getElem hjl);have hN:(ρ xs'[j] = .nil∧c = .nil)∨snapA m.own true (ρ xs'[j])=some c:=by
    cases e:ρ xs'[j] with
    | nil=>rw[e]at hfy;exact .inl ⟨rfl,(Option.some.inj hfy).symm⟩
    | _=>rw[e]at hfy;exact .inr hfy
   rcases hN with ⟨e1,rfl⟩|hfy
   ·rw[e1]at hcv
    rw[cv_nil hcv];exact .ca (.one .nil)
   have hda:=snapA_da hm true (safe m.w.heap.size (safe B S m false) ⟨fun _ _=>none,Own.emp,m.w⟩) (fun l b hb hsf=>by
    cases l with
    | false=>exact .inl ⟨hsf,hb⟩
    | true=>exact .inr (.inr ⟨rfl,hb⟩)) (fun s t g hlv hg=>by
    obtain ⟨_,x0,hh⟩:=hm.ge hlv hg;exact .inr (.inr ⟨rfl,(Array.getElem?_eq_some_iff.1 hh).1⟩)) hfy hcv
   exact .ca (DA.ca (m:=⟨fun _ _=>none,Own.emp,m.w⟩) hda)
 have hm0:MemOK m.w.heap.size (safe B S m false) ⟨m.w,w0.D⟩ ⟨fun _ _=>none,Own.emp,m.w⟩:=⟨Bel.refl _ _ _,Nat.le_refl _,fun _ _ _=>rfl,(fun s t b h=>by cases h),(fun _ _ _ _ _ _ _ h=>by cases h)⟩;have hcall:=hC.c.inn f vs Own.emp _ o' hin m.w.heap.size (safe B S m false) ⟨m.w,w0.D⟩ ⟨fun _ _=>none,Own.emp,m.w⟩ (xs.toList.map a.eval) (I.size _ (hC.ok hm)) (hC.ok hm) hC.hD rfl hm0 (by rw[←hl2];simp [hl]) hargs;intro K Q hK;unfold Oper.wp;rw[run_exec_call hop (hC.c.enterI f _ _ _ hin _ _),hmap];refine Calls.mono hcall fun e w' ⟨u,m',he',hw,hown,hm',hext',hcv⟩ => ?_
 subst he' hw;have hbel:Bel w0.D m.w.heap.size m.w m'.w:=hm'.below;rw[←hown]at hget;obtain ⟨hz,hblk⟩:=hm'.blkC hget (cv_row_lo hcv);obtain ⟨ad,cap,rfl,ht,hz0,hlc,ha,hb⟩:=cv_row hcv;obtain ⟨hzz,hor⟩:=hb b0 hget;subst hzz;have hold : ∀ s t g,live m s t→m.ν s t=some g→g<m.w.heap.size:=fun s t g hlv hg=>by
  obtain ⟨_,x0,hh⟩:=hm.ge hlv hg;exact (Array.getElem?_eq_some_iff.1 hh).1
 have hlive1 : ∀ s' t' g,live ⟨newν m s (m'.ν s0 t0),m.own.put s ((m.own s).new ⟨b0.esz,b0.es⟩),m'.w⟩ s' t'→newν m s (m'.ν s0 t0) s' t'=some g→g<m.w.heap.size∨m'.ν s0 t0=some g:=fun s' t' g hlv hg=>by
  obtain ⟨b',hb'⟩:=hlv;rw[get_new]at hb';by_cases hst:s'=s∧t'=m.own.cnt s
  ·simp only[newν,if_pos hst]at hg
   exact Or.inr hg
  ·rw[if_neg hst]at hb'
   simp only[newν,if_neg hst]at hg;exact Or.inl (hold s' t' g ⟨b',hb'⟩ hg)
 have hR : ∀ b,b<m'.w.heap.size→safe m.w.heap.size (safe B S m false) m' false b→safe B S ⟨newν m s (m'.ν s0 t0),m.own.put s ((m.own s).new ⟨b0.esz,b0.es⟩),m'.w⟩ false b:=fun b hbs hsf=>by
  rcases hsf with ⟨h1,h2⟩|⟨h1,h2⟩|⟨h1,_⟩
  ·rcases h1 with h1|⟨h1,h3⟩|⟨h1,_⟩
   ·exact .inl h1
   ·refine .inr (.inl ⟨h1,fun s' t' hlv hg => ?_⟩)
    obtain ⟨b',hb'⟩:=Option.isSome_iff_exists.1 hlv;have hb2:=hb';rw[get_new]at hb2;by_cases hst:s'=s∧t'=m.own.cnt s
    ·simp only[newν,if_pos hst]at hg
     rw[hg]at hblk;have:=hblk.1
     omega
    ·rw[if_neg hst]at hb2
     simp only[newν,if_neg hst]at hg;exact h3 s' t' (by rw[hb2];rfl) hg
   ·cases h1
  ·refine .inr (.inl ⟨Nat.le_trans hm.size h1,fun s' t' hlv hg => ?_⟩)
   rcases hlive1 s' t' b (Option.isSome_iff_exists.1 hlv) hg with h3|h3
   ·omega
   ·exact h2 s0 t0 (by rw[hget];rfl) h3
  ·cases h1
 obtain ⟨hmem,hext⟩:=adopt_ok hm hbel s hlo ⟨b0.esz,b0.es⟩ (m'.ν s0 t0) hz (by
  cases hν:m'.ν s0 t0 with
  | none=>rw[hν]at hblk;exact hblk
  | some g =>
   rw[hν]at hblk hR;obtain ⟨h1,arr,e,h2,h3⟩:=hblk;refine ⟨h1,arr,e,h2,fun i cs hi j c hj => ?_⟩;obtain ⟨u,hu,hcc⟩:=h3 i cs hi j c hj;refine ⟨u,hu,.rd ?_⟩;have hcl2:=cleanL_get (cleanLL_get hcl i cs hi) j c hj;have hrd:Rd m'.w (safe m.w.heap.size (safe B S m false) m') c u:=by
    cases hcc with
    | rd h=>exact h
    | _=>unfold Clean at hcl2;exact hcl2.elim
   exact hrd.clean hR hcl2)
 refine hK _ ⟨newν m s (m'.ν s0 t0),m.own.put s ((m.own s).new ⟨b0.esz,b0.es⟩),m'.w⟩ rfl hmem hext (.ca (.one (.row s (m.own.cnt s) b0.esz 0 b0.es.length ad cap (by show m.own.cnt s<Own.cnt (m.own.put s _) s;rw[cnt_new,if_pos rfl];omega) hz0 hlc ha (fun b1 hb1 => ?_) hlo)));have hb1':(m.own.put s ((m.own s).new ⟨b0.esz,b0.es⟩)).get s (m.own.cnt s)=some b1:=hb1;rw[get_new,if_pos ⟨rfl,rfl⟩]at hb1';obtain rfl:=Option.some.inj hb1';refine ⟨rfl,?_⟩;rcases hor with h0|⟨g,arr,e,hg,hae,hh,hle⟩
 ·exact .inl h0
 ·exact .inr ⟨g,arr,e,by simp [newν,hg],hae,hh,hle⟩
theorem cv_fn {p:Bool} {f g:Nat} {cs:List AV} {v:Value} (h:CV B S m (.fn p f g cs) v) (hp:p=false∨cs=[]) : ∃ vs:List Value,v = .func (.func g) #[] vs.toArray∧CL B S m cs vs:=by
 cases h with
 | ca h=>cases h with
  | one h=>cases h with
   | rd h=>cases h
  | fn p f g cs vs hp h=>exact ⟨vs,rfl,h⟩
  | fnb f g cs vs hne h =>
   rcases hp with hp|hp
   ·cases hp
   ·exact absurd hp hne
theorem cv_fnb {f g:Nat} {cs:List AV} {v:Value} (h:CV B S m (.fn true f g cs) v) (hne:cs≠[]) : ∃ vs:List Value,v = .func (.func g) #[.agg vs.toArray] #[]∧CL B S m cs vs:=by
 cases h with
 | ca h=>cases h with
  | one h=>cases h with
   | rd h=>cases h
  | fn p f g cs vs hp h=>exact absurd (hp rfl) hne
  | fnb f g cs vs hne h=>exact ⟨vs,rfl,h⟩
theorem run_exec_callv {f:Nat} {x:Operand} {xs:Array Operand} {ts:Array TypeId} {vs:Array Value} (hop:o.op = .call ⟨.value x,xs,ts⟩) (hx:a.eval x = .func (.func f) #[] vs) {w:World} (h:(callFunc f (xs.map a.eval++vs)).run P w = .ok (.enter f (xs.map a.eval++vs)) w):(execOp a.eval o).run P w = .ok (.enter f (xs.map a.eval++vs)) w:=by
 simp [execOp,hop,resolve,Deferred.ofValue,hx,invoke];exact h
theorem do_callv {C:Cl} {I:Keep} (hC:CallsAt I P num C B w0) (hm:MemOK B S w0 m) (hs:Says B S m ρ a.eval) {x':Opd} {xs':List Opd} (h:okOp P num o.op (.callv x' xs')=true) {f:Nat} {cs:List AV} (hf:ρ x' = .fn false f (num f) cs) {r:AV} {own':Own} (hr:C.inn f (xs'.map ρ++cs) m.own=some (r,own')):Does B S w0 P o a m (.tur r own'):=by
 obtain ⟨x,xs,ts,hop,hx0,he⟩:=inv_callv h;obtain ⟨hl,hx⟩:=eqOpds_says hs he;obtain ⟨vs,hv,hcl⟩:=cv_fn (hf ▸ hs x x' hx0) (.inl rfl);have hmap:(xs.map a.eval++vs.toArray)=(xs.toList.map a.eval++vs).toArray:=by cases xs;simp
 have hcall:=hC.c.inn f (xs'.map ρ++cs) m.own r own' hr B S w0 m (xs.toList.map a.eval++vs) hC.hB hC.hw hC.hD rfl hm (by simp [hl,hcl.1]) (fun j c v hc hv=>by
  by_cases hj:j<xs'.length
  ·rw[List.getElem?_append_left (by simpa using hj),List.getElem?_map]at hc
   rw[List.getElem?_append_left (by simpa [hl] using hj),List.getElem?_map]at hv;have hj2:j<xs.toList.length:=by rw[hl];exact hj
   rw[List.getElem?_eq_getElem hj]at hc;rw[List.getElem?_eq_getElem hj2]at hv;simp only[Option.map_some,Option.some.injEq]at hc hv;subst hc hv;exact hx j _ _ (List.getElem?_eq_getElem hj2) (List.getElem?_eq_getElem hj)
  ·rw[List.getElem?_append_right (by simpa using hj),List.length_map]at hc
   rw[List.getElem?_append_right (by simpa [hl] using hj),List.length_map,hl]at hv;exact .ca (.one (hcl.2 _ c v hc hv)))
 intro K Q hK;unfold Oper.wp;rw[run_exec_callv hop hv (hC.c.enterI f _ _ _ hr _ _),hmap];refine Calls.mono hcall fun e w' ⟨u,m',he',hw,hown,hm',hext,hcv⟩ => ?_
 subst he' hw;exact hK u m' hown hm' hext hcv
theorem do_callp {C:Cl} {I:Keep} (hC:CallsAt I P num C B w0) (hm:MemOK B S w0 m) (hs:Says B S m ρ a.eval) {x':Opd} {xs':List Opd} (h:okOp P num o.op (.callv x' xs')=true) {f:Nat} (hf:ρ x' = .fn true f (num f) []) {vs:List AV} {r:AV} (hv:(xs'.map ρ).mapM (snapA m.own true)=some vs) (hr:C.pure f vs=some r):Does B S w0 P o a m (.val r):=by
 obtain ⟨x,xs,ts,hop,hx0,he⟩:=inv_callv h;obtain ⟨us,hu,hcl⟩:=cv_fn (hf ▸ hs x x' hx0) (.inr rfl);have hu0:us=[]:=List.eq_nil_of_length_eq_zero (by rw[←hcl.1];rfl);subst hu0;refine do_pure hC hm hs he (fun w h => ?_) hv hr;have:=run_exec_callv (P:=P) (w:=w) hop hu (by simpa using h)
 simpa using this
theorem run_exec_callb {f:Nat} {x:Operand} {xs:Array Operand} {ts:Array TypeId} {u:Value} (hop:o.op = .call ⟨.value x,xs,ts⟩) (hx:a.eval x = .func (.func f) #[u] #[]) {w:World} (h:(callFunc f (#[u]++xs.map a.eval)).run P w = .ok (.enter f (#[u]++xs.map a.eval)) w):(execOp a.eval o).run P w = .ok (.enter f (#[u]++xs.map a.eval)) w:=by
 simp [execOp,hop,resolve,Deferred.ofValue,hx,invoke];exact h
theorem do_callb {C:Cl} {I:Keep} (hC:CallsAt I P num C B w0) (hm:MemOK B S w0 m) (hs:Says B S m ρ a.eval) {x':Opd} {xs':List Opd} (h:okOp P num o.op (.callv x' xs')=true) {f:Nat} {c:AV} {cs:List AV} (hf:ρ x' = .fn true f (num f) (c::cs)) {vs:List AV} {r:AV} (hv:(AV.agg (c::cs)::xs'.map ρ).mapM (snapA m.own true)=some vs) (hr:C.pure f vs=some r):Does B S w0 P o a m (.val r):=by
 obtain ⟨x,xs,ts,hop,hx0,he⟩:=inv_callv h;obtain ⟨us,hu,hcl⟩:=cv_fnb (hf ▸ hs x x' hx0) (by simp);obtain ⟨hl,hx⟩:=eqOpds_says hs he;have hmap:(#[Value.agg us.toArray]++xs.map a.eval)=(Value.agg us.toArray::xs.toList.map a.eval).toArray:=by cases xs;simp
 refine do_pureV hC hm (us:=Value.agg us.toArray::xs.toList.map a.eval) (as:=AV.agg (c::cs)::xs'.map ρ) (by simp [hl]) (fun j v c' h1 h2 => ?_) (fun w h=>by
  rw[←hmap]at h ⊢;exact run_exec_callb hop hu h) hv hr
 cases j with
 | zero =>
  simp only[List.getElem?_cons_zero,Option.some.injEq]at h1 h2;subst h1 h2;exact .ca (.agg _ _ hcl)
 | succ j =>
  rw[List.getElem?_cons_succ,List.getElem?_map]at h1 h2;cases hxj:xs.toList[j]? with
  | none=>simp [hxj]at h1
  | some x =>
   cases hyj:xs'[j]? with
   | none=>simp [hyj]at h2
   | some y =>
    simp only[hxj,hyj,Option.map_some,Option.some.injEq]at h1 h2;subst h1 h2;exact hx j x y hxj hyj
theorem Rd.to1 {w:World} {R R':Bool→Nat→Prop} (hR : ∀ l b,b<w.heap.size→R l b → ∀ l',R' l' b) {c:AV} {v:Value} (h:Rd w R c v) (hq:dq1 c=true):Rd w R' (unl1 c) v:=by
 cases h with
 | int k n=>exact .int k n
 | bool b=>exact .bool b
 | str s=>simp [dq1]at hq
 | nilf=>simp [dq1]at hq
 | nilm=>simp [dq1]at hq
 | emp=>simp [dq1]at hq
 | sl0 l a cap=>exact .sl0 false a cap
 | sl l es b o esz cap u hne hp h1 hcap hz hcl hr =>
  obtain ⟨e,c,he,hc0⟩:=first_cell hne hp hz;have hb:b<w.heap.size:=cell_lt (hcl 0 e he 0 c hc0);exact .sl false es b o esz cap u hne hp (hR l b hb h1 false) hcap hz hcl fun i e he j c hj=>(hr i e he j c hj).mono (fun l b hb h=>hR l b hb h l) (fun _ _ _ _=>rfl)
theorem Rd.back1 {w:World} {R R':Bool→Nat→Prop} (hR : ∀ b,b<w.heap.size→R false b→R' true b) {c:AV} {v:Value} (h:Rd w R c v) (hc:Clean c) (hf:Flat1 c):Rd w R' (lnd1 c) v:=by
 cases h with
 | int k n=>exact .int k n
 | bool b=>exact .bool b
 | str s=>exact hf.elim
 | nilf=>exact hf.elim
 | nilm=>exact hf.elim
 | emp=>exact hf.elim
 | sl0 l a cap=>exact .sl0 true a cap
 | sl l es b o esz cap u hne hp h1 hcap hz hcl hr =>
  unfold Clean at hc;obtain ⟨rfl,hc⟩:=hc;obtain ⟨e,c,he,hc0⟩:=first_cell hne hp hz;have hb:b<w.heap.size:=cell_lt (hcl 0 e he 0 c hc0);refine .sl true es b o esz cap u hne hp (hR b hb h1) hcap hz hcl fun i e he j c hj => ?_
  have hnum:=hf e (List.mem_of_getElem? he) c (List.mem_of_getElem? hj);have hrr:=hr i e he j c hj;generalize u i j=vv at hrr ⊢;cases hrr<;>first|exact .int _ _|exact .bool _|(simp [num1]at hnum)
theorem lnDL_mapC : ∀ l:List AV,lnDL l=l.map lnD1
 | []=>by simp [lnDL]
 | c::r=>by rw[lnDL,lnDL_mapC r];rfl
theorem lnDLL_mapC : ∀ l:List (List AV),lnDLL l=l.map fun e=>e.map lnD1
 | []=>by simp [lnDLL]
 | c::r=>by rw[lnDLL,lnDLL_mapC r,lnDL_mapC];rfl
theorem Rd.backD {w:World} {R R':Bool→Nat→Prop} (hR : ∀ b,b<w.heap.size→R false b→R' true b) {c:AV} {v:Value} (h:Rd w R c v):Clean c→Rd w R' (lnD1 c) v:=by
 induction h with
 | int k n=>intro _;exact .int k n
 | bool b=>intro _;exact .bool b
 | str s=>intro _;exact .str s
 | nilf=>intro _;exact .nilf
 | nilm=>intro _;exact .nilm
 | emp b a cap h=>intro _;exact .emp b a cap h
 | sl0 l a cap=>intro _;exact .sl0 true a cap
 | sl l es b o esz cap u hne hp h1 hcap hz hcl hr ih =>
  intro hc;unfold Clean at hc;obtain ⟨rfl,hc⟩:=hc;obtain ⟨e,c,he,hc0⟩:=first_cell hne hp hz;have hb:b<w.heap.size:=cell_lt (hcl 0 e he 0 c hc0);have hat : ∀ (i:Nat) (e':List AV),(es.map fun e:List AV=>e.map lnD1)[i]? = some e' → ∃ e,es[i]? = some e∧e'=e.map lnD1:=fun i e' h=>by
   rw[List.getElem?_map]at h;cases hi:es[i]? with
   | none=>simp [hi]at h
   | some e=>exact ⟨e,rfl,by simpa [hi] using h.symm⟩
  have hat2 : ∀ (e:List AV) (j:Nat) (c':AV),(e.map lnD1)[j]? = some c' → ∃ c,e[j]? = some c∧c'=lnD1 c:=fun e j c' h=>by
   rw[List.getElem?_map]at h;cases hi:e[j]? with
   | none=>simp [hi]at h
   | some c=>exact ⟨c,rfl,by simpa [hi] using h.symm⟩
  have key:=Rd.sl (w:=w) (R:=R') true (es.map fun e:List AV=>e.map lnD1) b o esz cap u (by simpa using hne) hp (hR b hb h1) (by simpa using hcap)
   (fun e' he'=>by
    obtain ⟨e,he,rfl⟩:=List.mem_map.1 he';rw[List.length_map];exact hz e he)
   (fun i e' hi j c' hj=>by
    obtain ⟨e,he,rfl⟩:=hat i e' hi;obtain ⟨c,hcj,rfl⟩:=hat2 e j c' hj;exact hcl i e he j c hcj)
   (fun i e' hi j c' hj=>by
    obtain ⟨e,he,rfl⟩:=hat i e' hi;obtain ⟨c,hcj,rfl⟩:=hat2 e j c' hj;exact ih i e he j c hcj (cleanL_get (cleanLL_get hc i e he) j c hcj))
  rw[List.length_map]at key;rw[lnD1,lnDLL_mapC];exact key
theorem do_callq {C:Cl} {I:Keep} (hC:CallsAt I P num C B w0) (hm:MemOK B S w0 m) (hs:Says B S m ρ a.eval) {f:Nat} {xs':List Opd} (h:okOp P num o.op (.callq f xs')=true) (hq:(xs'.map ρ).all dq=true) {r:AV} (hr:C.pure f ((xs'.map ρ).map unl)=some r) (hfl0:FlatR r∨DeepR r):Does B S w0 P o a m (.val (lnR r)):=by
 obtain ⟨xs,ts,hop,he⟩:=inv_call (inv_callq h);obtain ⟨hl,hx⟩:=eqOpds_says hs he;have hmap:(xs.map a.eval)=(xs.toList.map a.eval).toArray:=by cases xs;simp
 have hR : ∀ l b,b<m.w.heap.size→safe B S m l b → ∀ l',safe m.w.heap.size (safe B S m true) ⟨fun _ _=>none,Own.emp,m.w⟩ l' b:=fun l b hb h l' => .inl ⟨safe_true h,hb⟩
 have hcell : ∀ (c:AV) (v:Value),CC B S m c v→dq1 c=true→Rd m.w (safe m.w.heap.size (safe B S m true) ⟨fun _ _=>none,Own.emp,m.w⟩) (unl1 c) v:=fun c v hc hd=>by
  cases hc with
  | rd hr=>exact hr.to1 hR hd
  | nil=>exact .sl0 false none 0
  | row=>simp [dq1]at hd
  | ptr=>simp [dq1]at hd
  | mp=>simp [dq1]at hd
  | dptr=>simp [dq1]at hd
 have hargs : ∀ (j:Nat) (c:AV) (v:Value),((xs'.map ρ).map unl)[j]? = some c→(xs.toList.map a.eval)[j]? = some v→CA m.w.heap.size (safe B S m true) ⟨fun _ _=>none,Own.emp,m.w⟩ c v:=by
  intro j c v hc hvv;rw[List.getElem?_map,List.getElem?_map]at hc;rw[List.getElem?_map]at hvv;cases hxj:xs.toList[j]? with
  | none=>simp [hxj]at hvv
  | some x =>
   cases hyj:xs'[j]? with
   | none=>simp [hyj]at hc
   | some y =>
    simp [hxj]at hvv;simp [hyj]at hc;subst hvv hc;have hcv:=hx j x y hxj hyj;have hd:dq (ρ y)=true:=List.all_eq_true.1 hq _ (List.mem_map_of_mem (List.mem_of_getElem? hyj));generalize ρ y=cy at hcv hd ⊢;generalize a.eval x=vx at hcv ⊢;cases hcv with
    | any=>simp [dq,dq1]at hd
    | tup=>simp [dq,dq1]at hd
    | ca hca =>
     cases hca with
     | one hc1 =>
      have hd1:dq1 cy=true∧unl cy=unl1 cy:=by
       cases hc1 with
       | rd hr=>cases hr<;>exact ⟨hd,rfl⟩
       | _=>exact ⟨hd,rfl⟩
      rw[hd1.2];exact .one (.rd (hcell _ _ hc1 hd1.1))
     | agg cs vs hcl =>
      refine .agg (cs.map unl1) vs ⟨by simpa using hcl.1,fun k c' v' hc' hv' => ?_⟩;rw[List.getElem?_map]at hc';cases hck:cs[k]? with
      | none=>simp [hck]at hc'
      | some c0 =>
       simp [hck]at hc';subst hc';exact .rd (hcell c0 v' (hcl.2 k c0 v' hck hv') (List.all_eq_true.1 hd _ (List.mem_of_getElem? hck)))
     | fn=>simp [dq,dq1]at hd
     | fnb=>simp [dq,dq1]at hd
 have hcall:=hC.c.pure f _ r hr (safe B S m true) m.w (xs.toList.map a.eval) (hC.ok hm) (by simp [hl]) hargs;intro K Q hK;unfold Oper.wp;rw[run_exec_call hop (hC.c.enterP f _ r hr _ _),hmap];refine Calls.mono hcall fun e w' ⟨u,he',hbel,hcv,hcl⟩ => ?_
 subst he';obtain ⟨hm',hext⟩:=grow hm (hbel.weak hC.hD);refine hK u ⟨m.ν,m.own,w'⟩ rfl hm' hext ?_;have hback : ∀ b,b<w'.heap.size→safe m.w.heap.size (safe B S m true) ⟨fun _ _=>none,Own.emp,w'⟩ false b→safe B S ⟨m.ν,m.own,w'⟩ true b:=fun b hb hsf=>by
  rcases hsf with ⟨h1,h2⟩|⟨h1,_⟩|⟨h1,_⟩
  ·exact hext.saf true b h2 h1
  ·refine .inr (.inl ⟨Nat.le_trans hm.size h1,fun s t hlv hg => ?_⟩)
   obtain ⟨b',hb'⟩:=Option.isSome_iff_exists.1 hlv;obtain ⟨_,x0,hh⟩:=hm.ge ⟨b',hb'⟩ hg;have:=(Array.getElem?_eq_some_iff.1 hh).1
   omega
  ·cases h1
 by_cases hfl:FlatR r
 ·rw[lnR_flat hfl]
  rcases cv_dv hcv hcl with hda|⟨cs,vs,rfl,_⟩
  ·rcases hda with hrd|⟨cs,vs,rfl,rfl,hl2,hh⟩
   ·have e1:lnd r=lnd1 r∧Flat1 r:=by cases hrd<;>exact ⟨rfl,hfl⟩
    rw[show Eff.valOf (.val (lnd r)) m.own=lnd r from rfl,e1.1];exact .ca (.one (.rd (hrd.back1 hback hcl e1.2)))
   ·unfold Clean at hcl
    refine .ca (.agg (cs.map lnd1) vs ⟨by simpa using hl2,fun k c' v' hc' hv' => ?_⟩);rw[List.getElem?_map]at hc';cases hck:cs[k]? with
    | none=>simp [hck]at hc'
    | some c0 =>
     simp [hck]at hc';subst hc';exact .rd ((hh k c0 v' hck hv').back1 hback (cleanL_get hcl k c0 hck) (hfl c0 (List.mem_of_getElem? hck)))
  ·exact hfl.elim
 ·rw[lnR_deep hfl]
  have hd:=hfl0.resolve_left hfl;have hone : ∀ {r:AV} {v:Value},DA w' (safe m.w.heap.size (safe B S m true) ⟨fun _ _=>none,Own.emp,w'⟩) r v→Clean r→CA B S ⟨m.ν,m.own,w'⟩ (lnE r) v:=fun {r v} hda hcl=>by
   rcases hda with hrd|⟨cs,vs,rfl,rfl,hl2,hh⟩
   ·have e1:lnE r=lnD1 r:=by cases hrd<;>rfl
    rw[e1];exact .one (.rd (hrd.backD hback hcl))
   ·unfold Clean at hcl
    rw[show lnE (.agg cs) = .agg (lnDL cs) from rfl,lnDL_mapC];refine .agg (cs.map lnD1) vs ⟨by simpa using hl2,fun k c' v' hc' hv' => ?_⟩;rw[List.getElem?_map]at hc';cases hck:cs[k]? with
    | none=>simp [hck]at hc'
    | some c0 =>
     simp [hck]at hc';subst hc';exact .rd ((hh k c0 v' hck hv').backD hback (cleanL_get hcl k c0 hck))
  rcases cv_dv hcv hcl with hda|⟨cs,vs,rfl,rfl,hl2,hh⟩
  ·have e1:lnD r=lnE r:=by
    rcases hda with hrd|⟨cs,vs,rfl,_⟩
    ·cases hrd<;>rfl
    ·rfl
   rw[show Eff.valOf (.val (lnD r)) m.own=lnD r from rfl,e1];exact .ca (hone hda hcl)
  ·unfold Clean at hcl
   rw[show Eff.valOf (.val (lnD (.tup cs))) m.own = .tup (cs.map lnE) from rfl];refine .tup (cs.map lnE) vs (by simpa using hl2) fun k c' v' hc' hv' => ?_
   rw[List.getElem?_map]at hc';cases hck:cs[k]? with
   | none=>simp [hck]at hc'
   | some c0 =>
    simp [hck]at hc';subst hc';exact hone (hh k c0 v' hck hv') (cleanL_get hcl k c0 hck)
end
end Go.Eng

namespace Go.Eng
open Go.RowKit
theorem strEq_iff {s t:ByteArray}:strEq s t=true↔s=t:=by
 unfold strEq;rw[beq_iff_eq];constructor
 ·intro h
  cases s with
  | mk a=>cases t with
   | mk b=>exact congrArg _ (Array.ext' h)
 ·rintro rfl;rfl
theorem strEq_false {s t:ByteArray}:strEq s t=false↔s≠t:=by
 rw[Ne,←strEq_iff];simp
def rdI (v:Value):Option (DataW Unit × List MemPlace):=match v with
 | .int .i64 n=>if (Lit.int .i64 n).wf=true then some (.lit (.int .i64 n),[]) else none
 | _=>none
section
variable {P:Program} {k:TypeId} {es:Array MapEntry} {clock:Nat} {l:List (List AV)}
theorem MapIs.ent (h:MapIs es clock l) {x:MapEntry} (hx:x∈es.toList) : ∃ (s:ByteArray) (n:Int),x.key = .string s∧x.val = .int .i64 n∧s.size≤maxLen∧(Lit.int .i64 n).wf=true∧[AV.con (.string s),.int .i64 n]∈l:=by
 obtain ⟨_,_,h3,h4⟩:=h;have hm:(x.key,x.val)∈l.map entV:=h3.mem_iff.1 (List.mem_map.2 ⟨x,hx,rfl⟩);obtain ⟨c,hc,e⟩:=List.mem_map.1 hm;obtain ⟨s,n,rfl,hs,hn⟩:=h4 c hc;simp only[entV,Prod.mk.injEq]at e;exact ⟨s,n,e.1.symm,e.2.symm,hs,hn,hc⟩
theorem MapIs.mem (h:MapIs es clock l) {s:ByteArray} {n:Int} (hc:[AV.con (.string s),.int .i64 n]∈l) : ∃ x∈es.toList,x.key = .string s∧x.val = .int .i64 n:=by
 obtain ⟨_,_,h3,_⟩:=h;have hm:((Value.string s,Value.int .i64 n):Value × Value)∈l.map entV:=List.mem_map.2 ⟨_,hc,rfl⟩;obtain ⟨x,hx,e⟩:=List.mem_map.1 (h3.mem_iff.2 hm);simp only[Prod.mk.injEq]at e;exact ⟨x,hx,e.1,e.2⟩
theorem MapIs.fit (hk:P.underlying k=some .string) (h:MapIs es clock l) (hl:l.length≤maxLen):WideElems.Fit P k rdI es clock:=by
 refine ⟨Nat.le_trans h.2.1 hl,h.1,fun x hx => ?_⟩;obtain ⟨s,n,e1,e2,hs,hn,_⟩:=h.ent hx;refine ⟨(.string s.data.toList,.lit (.int .i64 n)),?_⟩;simp [WideElems.rd,e1,e2,WideMaps.keyOf_string_mk hk hs,rdI,hn]
theorem MapIs.nodup (h:MapIs es clock l):((l.map entV).map Prod.fst).Nodup:=by
 obtain ⟨h1,_,h3,_⟩:=h;have:=(h3.map Prod.fst).nodup_iff.1 (by
  rw[List.map_map];exact h1.2.2)
 exact this
theorem mgetA_none : ∀ {l:List (List AV)} {b:ByteArray},(∀ n:Int,[AV.con (.string b),.int .i64 n] ∉ l)→mgetA l b=none
 | [],_,_=>rfl
 | c::r,b,h=>by
  have ih:=mgetA_none (l:=r) (b:=b) fun n hn=>h n (List.mem_cons_of_mem _ hn)
  unfold mgetA;split
  ·rename_i s n
   cases e:strEq s b
   ·exact ih
   ·obtain rfl:=strEq_iff.1 e
    exact absurd List.mem_cons_self (h n)
  ·exact ih
theorem mgetA_some : ∀ {l:List (List AV)} {b:ByteArray} {n:Int},((l.map entV).map Prod.fst).Nodup→[AV.con (.string b),.int .i64 n]∈l→mgetA l b=some n
 | c::r,b,n,hnd,h=>by
  rw[List.map_cons,List.map_cons,List.nodup_cons]at hnd;rcases List.mem_cons.1 h with rfl|hr
  ·unfold mgetA
   simp [strEq_iff.2 rfl]
  ·have ih:=mgetA_some (l:=r) hnd.2 hr
   clear h;unfold mgetA;split
   ·rename_i s n'
    cases e:strEq s b
    ·exact ih
    ·obtain rfl:=strEq_iff.1 e
     refine absurd ?_ hnd.1;exact List.mem_map.2 ⟨_,List.mem_map.2 ⟨_,hr,rfl⟩,rfl⟩
   ·exact ih
end
section
variable {B:Nat} {S:Nat→Prop} {w0:Base} {m:M}
theorem newM_ok (hm:MemOK B S w0 m) (s:Nat) (hlo:mapLo≤s) :
  MemOK B S w0 ⟨newν m s (some m.w.heap.size),m.own.put s ((m.own s).new ⟨2,[]⟩),m.w.alloc (.map #[] 0)⟩ ∧
  Ext B S m ⟨newν m s (some m.w.heap.size),m.own.put s ((m.own s).new ⟨2,[]⟩),m.w.alloc (.map #[] 0)⟩:=by
 have hsz:(m.w.alloc (.map #[] 0)).heap.size=m.w.heap.size+1:=by simp
 have hν : ∀ s' t',live m s' t'→newν m s (some m.w.heap.size) s' t'=m.ν s' t':=fun s' t' hl=>by
  unfold newν;rw[if_neg];rintro ⟨rfl,rfl⟩
  exact not_live_cnt hm _ hl
 have he:Ext B S m ⟨newν m s (some m.w.heap.size),m.own.put s ((m.own s).new ⟨2,[]⟩),m.w.alloc (.map #[] 0)⟩:=by
  refine ext_of hm (by rw[hsz];omega) (fun k hk _=>Below.heap_alloc _ _ _ hk) (fun s' => ?_) (fun s' t' b' ht hb' => ?_) (fun s' t' g hl hg hlt => ?_)
  ·rw[cnt_new];split
   ·rename_i h;subst h;omega
   ·exact Nat.le_refl _
  ·rw[get_new]at hb'
   rw[if_neg (by rintro ⟨rfl,rfl⟩;omega)]at hb';refine ⟨b',hb',rfl,hν s' t' ⟨b',hb'⟩,fun g ar e' hg ha=>⟨ar,?_,rfl⟩⟩;exact (Below.heap_alloc _ _ _ (Array.getElem?_eq_some_iff.1 ha).1).trans ha
  ·obtain ⟨b',hb'⟩:=hl
   have hb2:=hb';rw[get_new]at hb';by_cases h:s'=s∧t'=m.own.cnt s
   ·simp only[newν,if_pos h,Option.some.injEq]at hg
    omega
   ·rw[if_neg h]at hb'
    exact ⟨s',t',⟨b',hb'⟩,by rw[←hν s' t' ⟨b',hb'⟩];exact hg⟩
 refine ⟨⟨hm.below.alloc hm.size _,by rw[hsz];have:=hm.size;omega,fun s' t' ht => ?_,fun s' t' b' hb' => ?_,fun s1 t1 s2 t2 b1 b2 g h1 h2 g1 g2 => ?_⟩,he⟩
 ·rw[cnt_new]at ht
  rw[get_new,if_neg]
  ·refine hm.fresh s' t' ?_
   split at ht
   ·rename_i h;subst h;omega
   ·exact ht
  ·rintro ⟨rfl,rfl⟩
   simp at ht;omega
 ·rw[get_new]at hb'
  by_cases h:s'=s∧t'=m.own.cnt s
  ·rw[if_pos h]at hb'
   obtain rfl:(⟨2,[]⟩:Blk)=b':=by simpa using hb'
   refine ⟨fun hge=>by have:=h.1;omega,fun _=>⟨m.w.heap.size,#[],0,by simp [newν,h],hm.size,heap_alloc_new _ _,MapKept.stamped_empty 0,Nat.le_refl _,List.Perm.refl _,fun c hc=>by cases hc⟩⟩
  ·rw[if_neg h]at hb'
   exact (hm.blk s' t' b' hb').ext he (hν s' t' ⟨b',hb'⟩) fun g x _ hx=>(Below.heap_alloc _ _ _ (Array.getElem?_eq_some_iff.1 hx).1).trans hx
 ·rw[get_new]at h1 h2
  have lt : ∀ s' t' b',m.own.get s' t'=some b'→newν m s (some m.w.heap.size) s' t'=some g→g<m.w.heap.size:=fun s' t' b' hb hg=>by
   rw[hν s' t' ⟨b',hb⟩]at hg;obtain ⟨_,x,h4⟩:=hm.ge ⟨b',hb⟩ hg;exact (Array.getElem?_eq_some_iff.1 h4).1
  have at_ : ∀ s' t',s'=s∧t'=m.own.cnt s→newν m s (some m.w.heap.size) s' t'=some g→g=m.w.heap.size:=fun s' t' h hg=>by
   simp only[newν,if_pos h,Option.some.injEq]at hg;exact hg.symm
  by_cases p1:s1=s∧t1=m.own.cnt s<;>by_cases p2:s2=s∧t2=m.own.cnt s
  ·exact ⟨p1.1.trans p2.1.symm,p1.2.trans p2.2.symm⟩
  ·rw[if_neg p2]at h2
   have:=lt s2 t2 b2 h2 g2
   have:=at_ s1 t1 p1 g1
   omega
  ·rw[if_neg p1]at h1
   have:=lt s1 t1 b1 h1 g1
   have:=at_ s2 t2 p2 g2
   omega
  ·rw[if_neg p1]at h1
   rw[if_neg p2]at h2;exact hm.inj s1 t1 s2 t2 b1 b2 g h1 h2 (by rw[←hν s1 t1 ⟨b1,h1⟩];exact g1) (by rw[←hν s2 t2 ⟨b2,h2⟩];exact g2)
theorem updM_ok (hm:MemOK B S w0 m) (s t:Nat) (hlo:mapLo≤s) (b b':Blk) (hb:m.own.get s t=some b) (g:Nat) (hg:m.ν s t=some g) (es es':Array MapEntry) (clock clock':Nat)
  (ha:m.w.heap[g]? = some (.map es clock)) (hz':b'.esz=b.esz) (hmap:MapIs es' clock' b'.es) (w':World) (hbel:Bel w0.D B w0.w w') (hsize:w'.heap.size=m.w.heap.size)
  (hk : ∀ k,k≠g→w'.heap[k]? = m.w.heap[k]?) (hgw:w'.heap[g]? = some (.map es' clock')) :
  MemOK B S w0 ⟨m.ν,m.own.put s ((m.own s).upd t (some b')),w'⟩∧Ext B S m ⟨m.ν,m.own.put s ((m.own s).upd t (some b')),w'⟩:=by
 have he:Ext B S m ⟨m.ν,m.own.put s ((m.own s).upd t (some b')),w'⟩:=by
  refine ext_of hm (by rw[hsize];exact Nat.le_refl _) (fun k hk' hn=>hk k (fun e=>hn s t ⟨b,hb⟩ (e ▸ hg))) (fun s'=>by rw[cnt_upd];exact Nat.le_refl _) (fun s' t' b2 ht hb2 => ?_) (fun s' t' g' hl hg' _ => ?_)
  ·rw[get_upd]at hb2
   by_cases h:s'=s∧t'=t
   ·obtain ⟨rfl,rfl⟩:=h
    rw[if_pos ⟨rfl,rfl⟩]at hb2;obtain rfl:b'=b2:=by simpa using hb2
    refine ⟨b,hb,hz',rfl,fun g2 ar e' hg2 ha2 => ?_⟩;obtain rfl:g=g2:=by rw[hg]at hg2;simpa using hg2
    rw[ha]at ha2;cases ha2
   ·rw[if_neg h]at hb2
    refine ⟨b2,hb2,rfl,rfl,fun g2 ar e' hg2 ha2=>⟨ar,?_,rfl⟩⟩;rw[←ha2];exact hk g2 (fun e2=>h (by
     subst e2;exact hm.inj s' t' s t b2 b g2 hb2 hb hg2 hg))
  ·obtain ⟨b2,hb2⟩:=hl
   rw[get_upd]at hb2;by_cases h:s'=s∧t'=t
   ·obtain ⟨rfl,rfl⟩:=h
    exact ⟨s',t',⟨b,hb⟩,hg'⟩
   ·rw[if_neg h]at hb2
    exact ⟨s',t',⟨b2,hb2⟩,hg'⟩
 have hlt:t<m.own.cnt s:=by
  rcases Nat.lt_or_ge t (m.own.cnt s) with h|h
  ·exact h
  ·rw[hm.fresh s t h]at hb;cases hb
 refine ⟨⟨hbel,by rw[hsize];exact hm.size,fun s' t' ht => ?_,fun s' t' b2 hb2 => ?_,fun s1 t1 s2 t2 b1 b2 g1 h1 h2 e1 e2 => ?_⟩,he⟩
 ·rw[cnt_upd]at ht
  rw[get_upd,if_neg (by rintro ⟨rfl,rfl⟩;omega)];exact hm.fresh s' t' ht
 ·rw[get_upd]at hb2
  by_cases h:s'=s∧t'=t
  ·obtain ⟨rfl,rfl⟩:=h
   rw[if_pos ⟨rfl,rfl⟩]at hb2;obtain rfl:b'=b2:=by simpa using hb2
   exact ⟨fun hge=>by omega,fun _=>⟨g,es',clock',hg,(hm.ge ⟨b,hb⟩ hg).1,hgw,hmap⟩⟩
  ·rw[if_neg h]at hb2
   exact (hm.blk s' t' b2 hb2).ext he rfl fun g2 x hv hx=>(hk g2 (fun e2=>h (by
    subst e2;exact hm.inj s' t' s t b2 b g2 hb2 hb hv hg))).trans hx
 ·have old : ∀ s' t' b2,(m.own.put s ((m.own s).upd t (some b'))).get s' t'=some b2 → ∃ b3,m.own.get s' t'=some b3:=fun s' t' b2 h=>by
   rw[get_upd]at h;by_cases h':s'=s∧t'=t
   ·obtain ⟨rfl,rfl⟩:=h';exact ⟨b,hb⟩
   ·rw[if_neg h']at h;exact ⟨b2,h⟩
  obtain ⟨c1,k1⟩:=old s1 t1 b1 h1;obtain ⟨c2,k2⟩:=old s2 t2 b2 h2;exact hm.inj s1 t1 s2 t2 c1 c2 g1 k1 k2 e1 e2
theorem cv_mp {s t:Nat} {v:Value} (h:CV B S m (.mp s t) v) : ∃ g,v = .map (some g)∧(∀ b,m.own.get s t=some b→m.ν s t=some g)∧mapLo≤s∧t<m.own.cnt s:=by
 cases h with
 | ca h=>cases h with
  | one h=>cases h with
   | rd h=>cases h
   | mp _ _ g ht hb hs=>exact ⟨g,rfl,hb,hs,ht⟩
theorem cv_str {b:ByteArray} {v:Value} (h:CV B S m (.con (.string b)) v):v = .string b:=by
 cases h with
 | ca h=>cases h with
  | one h=>cases h with
   | rd h=>cases h;rfl
end
section
variable {P:Program} {k:TypeId} {es es':Array MapEntry} {clock clock':Nat} {l:List (List AV)}
def cvE (p:Value × Value):Lit × DataW Unit:=match p with
 | (.string s,.int .i64 n)=>(.string s.data.toList,.lit (.int .i64 n))
 | _=>(.bool false,.nil)
def dvE (p:Lit × DataW Unit):Value × Value:=match p with
 | (.string l,.lit (.int .i64 n))=>(.string ⟨l.toArray⟩,.int .i64 n)
 | _=>(.bool false,.bool false)
theorem rg_ent (hk:P.underlying k=some .string) {x:MapEntry} {s:ByteArray} {n:Int} (e1:x.key = .string s) (e2:x.val = .int .i64 n) (hs:s.size≤maxLen) (hn:(Lit.int .i64 n).wf=true):WideElems.rg P k rdI x=(.string s.data.toList,.lit (.int .i64 n)) :=
 WideElems.rg_of (by simp [WideElems.rd,e1,e2,WideMaps.keyOf_string_mk hk hs,rdI,hn])
theorem notKey_str {b s:ByteArray} {d:DataW Unit}:ChangeMaps.notKey (.string b.data.toList) ((.string s.data.toList,d):Lit × DataW Unit) = !strEq s b:=by
 unfold ChangeMaps.notKey strEq;simp [Lit.sameKey]
theorem MapIs.put (hk:P.underlying k=some .string) (h:MapIs es clock l) (hl:l.length<maxLen) {b:ByteArray} {n:Int} (hb:b.size≤maxLen) (hn:(Lit.int .i64 n).wf=true) (F':WideElems.Fit P k rdI es' clock')
  (hs:(es'.toList.map (WideElems.rg P k rdI)).foldr DataW.insert []=ChangeMaps.putKey (.string b.data.toList) (.lit (.int .i64 n)) ((es.toList.map (WideElems.rg P k rdI)).foldr DataW.insert []))
  (hin : ∀ x'∈es'.toList,(x'∈es.toList∧x'.key ≠ .string b)∨(x'.key = .string b∧x'.val = .int .i64 n)):MapIs es' clock' (mputA l b n):=by
 have w1 : ∀ x∈es.toList,WideElems.rg P k rdI x=cvE (x.key,x.val):=fun x hx=>by
  obtain ⟨s,n',e1,e2,h1,h2,_⟩:=h.ent hx;rw[rg_ent hk e1 e2 h1 h2,e1,e2];rfl
 have w2 : ∀ x∈es'.toList,dvE (WideElems.rg P k rdI x)=(x.key,x.val):=fun x hx=>by
  rcases hin x hx with ⟨hx,_⟩|⟨e1,e2⟩
  ·obtain ⟨s,n',e1,e2,h1,h2,_⟩:=h.ent hx
   rw[rg_ent hk e1 e2 h1 h2,e1,e2];rfl
  ·rw[rg_ent hk e1 e2 hb hn,e1,e2];rfl
 have p1:(es'.toList.map (WideElems.rg P k rdI)).Perm ((.string b.data.toList,.lit (.int .i64 n))::(es.toList.map (WideElems.rg P k rdI)).filter (ChangeMaps.notKey (.string b.data.toList))):=by
  refine (WideShapes.sorted_perm _).symm.trans ?_;rw[hs];exact (WideShapes.insert_perm _ _).trans (((WideShapes.sorted_perm _).filter _).cons _)
 have p2:((es.toList.map (WideElems.rg P k rdI)).filter (ChangeMaps.notKey (.string b.data.toList))).Perm (((l.map entV).map cvE).filter (ChangeMaps.notKey (.string b.data.toList))):=by
  refine List.Perm.filter _ ?_;rw[List.map_congr_left w1,show (es.toList.map fun x=>cvE (x.key,x.val))=(es.toList.map fun x=>(x.key,x.val)).map cvE by rw[List.map_map];rfl];exact h.2.2.1.map _
 have p3 : ∀ l':List (List AV),(∀ c∈l',∃ (s:ByteArray) (n:Int),c=[.con (.string s),.int .i64 n]∧s.size≤maxLen∧(Lit.int .i64 n).wf=true)→(((l'.map entV).map cvE).filter (ChangeMaps.notKey (.string b.data.toList))).map dvE=(l'.filter fun c => !mkey b c).map entV:=by
  intro l';induction l' with
  | nil=>intro _;rfl
  | cons c r ih =>
   intro hc;obtain ⟨s,n',rfl,_,_⟩:=hc c List.mem_cons_self;have ih:=ih fun c h=>hc c (List.mem_cons_of_mem _ h)
   have e:ChangeMaps.notKey (.string b.data.toList) (cvE (entV [.con (.string s),.int .i64 n'])) = !strEq s b:=notKey_str;have e2:mkey b [.con (.string s),.int .i64 n']=strEq s b:=rfl;simp only[List.map_cons,List.filter_cons,e,e2];cases strEq s b
   ·simp only[Bool.not_false,if_true,List.map_cons,ih]
    rfl
   ·simp only[Bool.not_true,Bool.false_eq_true,if_false]
    exact ih
 have p4:(es'.toList.map fun x=>(x.key,x.val)).Perm ((mputA l b n).map entV):=by
  rw[←List.map_congr_left w2,show (es'.toList.map fun x=>dvE (WideElems.rg P k rdI x))=(es'.toList.map (WideElems.rg P k rdI)).map dvE by rw[List.map_map];rfl];refine (p1.map dvE).trans ?_;rw[List.map_cons];refine ((p2.map dvE).cons _).trans ?_;rw[p3 l h.2.2.2];exact List.Perm.refl _
 refine ⟨F'.stamped,?_,p4,fun c hc => ?_⟩
 ·have:=p4.length_eq
  rw[List.length_map,List.length_map]at this;rw[←this];simp
 ·rcases List.mem_cons.1 hc with rfl|hc
  ·exact ⟨b,n,rfl,hb,hn⟩
  ·exact h.2.2.2 c (List.mem_filter.1 hc).1
end
section
variable {B:Nat} {S:Nat→Prop} {w0:Base} {m:M} {P:Program} {num:Nat→Nat} {o:Oper} {a:Act} {ρ:Opd→AV}
theorem mapTy_inv {t:TypeId} (h:mapTy P t=true) : ∃ k e,P.underlying t=some (.map k e)∧P.underlying k=some .string∧P.underlying e=some (.int .i64) ∧ ∀ w,(zeroValue e).run P w = .ok (.int .i64 0) w:=by
 unfold mapTy at h;split at h
 ·rename_i k e ht
  simp only[Bool.and_eq_true]at h;obtain ⟨⟨h1,h2⟩,h3⟩:=h;refine ⟨k,e,ht,?_,?_,fun w => ?_⟩
  ·split at h1
   ·assumption
   ·cases h1
  ·split at h2
   ·assumption
   ·cases h2
  ·split at h3
   ·rename_i i hi
    split at h3
    ·rename_i n hz
     obtain rfl:n=0:=by simpa using h3
     simp [zeroValue,typeInfo,hi,hz]
    ·cases h3
   ·cases h3
 ·cases h
theorem do_mkm (hm:MemOK B S w0 m) {s:Nat} (h:okOp P num o.op (.mkm s)=true):Does B S w0 P o a m (.tur (.mp s (m.own.cnt s)) (m.own.put s ((m.own s).new ⟨2,[]⟩))):=by
 simp only[okOp,Bool.and_eq_true]at h;obtain ⟨h1,h2⟩:=h;have hlo:mapLo≤s:=by simpa [Nat.ble_eq] using h1
 split at h2
 ·rename_i t hop
  obtain ⟨k1,k2⟩:=newM_ok hm s hlo;intro K Q hK;refine wp_of_run (u := .map (some m.w.heap.size)) (w':=m.w.alloc (.map #[] 0)) ?_ (hK _ ⟨newν m s (some m.w.heap.size),m.own.put s ((m.own s).new ⟨2,[]⟩),m.w.alloc (.map #[] 0)⟩ rfl k1 k2 (.ca (.one (.mp s (m.own.cnt s) _ ?_ (fun b hb => ?_) hlo))))
  ·simp [execOp,hop,run_makeMap]
  ·show _<Own.cnt _ s
   rw[cnt_new];simp
  ·simp [newν]
 ·cases h2
theorem do_mlk (hm:MemOK B S w0 m) (hs:Says B S m ρ a.eval) {x' k':Opd} (h:okOp P num o.op (.mlk x' k')=true) {s t:Nat} (hx:ρ x' = .mp s t) {b:ByteArray} (hkk:ρ k' = .con (.string b)) {blk:Blk} (hget:m.own.get s t=some blk) (hb:b.size≤maxLen) (hl:blk.es.length≤maxLen) :
  Does B S w0 P o a m (.val (.tup [.int .i64 ((mgetA blk.es b).getD 0),.bool (mgetA blk.es b).isSome])):=by
 simp only[okOp]at h;split at h
 ·rename_i ty x k hop
  simp only[Bool.and_eq_true]at h;obtain ⟨⟨h1,h2⟩,h3⟩:=h;obtain ⟨kt,et,hT,hK,hE,hZ⟩:=mapTy_inv h1;obtain ⟨g,hv,hgg,hlo,_⟩:=cv_mp (hx ▸ hs x x' h2);have hkv:=cv_str (hkk ▸ hs k k' h3);obtain ⟨g',es,clock,e1,_,hh,hmap⟩:=(hm.blk s t blk hget).2 hlo;obtain rfl:g'=g:=Option.some.inj (e1.symm.trans (hgg blk hget));have hrun : ∃ n ok,(Instr.lookup ty (.map (some g')) (.string b) true).run P m.w = .ok (.tuple #[.int .i64 n,.bool ok]) m.w∧n=(mgetA blk.es b).getD 0∧ok=(mgetA blk.es b).isSome:=by
   rcases Maps.fit_look true (Maps.string_keyed hK) hT (hZ m.w) hh (hmap.fit hK hl) (WideMaps.keyOf_string_mk hK hb) with ⟨hr,hne,_⟩|⟨e0,y,he0,hke,hr,_,_,_⟩
   ·have hno:mgetA blk.es b=none:=mgetA_none fun n hn=>by
     obtain ⟨x,hx,hxk,_⟩:=hmap.mem hn;exact hne x hx hxk
    refine ⟨0,false,by simpa using hr,by rw[hno];rfl,by rw[hno];rfl⟩
   ·obtain ⟨s0,n0,q1,q2,_,_,q3⟩:=hmap.ent he0
    obtain rfl:s0=b:=by
     rw[q1]at hke;exact Value.string.inj hke
    have hso:=mgetA_some hmap.nodup q3;rw[q2]at hr;refine ⟨n0,true,by simpa using hr,by rw[hso];rfl,by rw[hso];rfl⟩
  obtain ⟨n,ok,hr,rfl,rfl⟩:=hrun;refine does_val hm (u := .tuple #[.int .i64 ((mgetA blk.es b).getD 0),.bool (mgetA blk.es b).isSome]) ?_ ?_
  ·simp only[execOp,hop,hv,hkv,Sem.run_bind,hr]
   rfl
  ·refine .tup _ [.int .i64 ((mgetA blk.es b).getD 0),.bool (mgetA blk.es b).isSome] rfl fun j c v hc hv => ?_
   match j with
   | 0 =>
    obtain rfl:=Option.some.inj hc;obtain rfl:=Option.some.inj hv;exact .one (.rd (.int _ _))
   | 1 =>
    obtain rfl:=Option.some.inj hc;obtain rfl:=Option.some.inj hv;exact .one (.rd (.bool _))
   | j+2=>simp at hc
 ·cases h
theorem do_mup (hm:MemOK B S w0 m) (hs:Says B S m ρ a.eval) {x' k' v':Opd} (h:okOp P num o.op (.mup x' k' v')=true) {s t:Nat} (hx:ρ x' = .mp s t) {b:ByteArray} (hkk:ρ k' = .con (.string b)) {n:Int} (hvv:ρ v' = .int .i64 n) {blk:Blk} (hget:m.own.get s t=some blk) (hb:b.size≤maxLen) (hl:blk.es.length<maxLen) (hn:(Lit.int .i64 n).wf=true) :
  Does B S w0 P o a m (.tur .any (m.own.put s ((m.own s).upd t (some ⟨blk.esz,mputA blk.es b n⟩)))):=by
 simp only[okOp]at h;split at h
 ·rename_i ty x k v hop
  simp only[Bool.and_eq_true]at h;obtain ⟨⟨⟨h1,h2⟩,h3⟩,h4⟩:=h;obtain ⟨kt,et,hT,hK,hE,hZ⟩:=mapTy_inv h1;obtain ⟨g,hv,hgg,hlo,_⟩:=cv_mp (hx ▸ hs x x' h2);have hkv:=cv_str (hkk ▸ hs k k' h3);have hnv:=cv_int (hvv ▸ hs v v' h4);obtain ⟨g',es,clock,e1,hB,hh,hmap⟩:=(hm.blk s t blk hget).2 hlo;obtain rfl:g'=g:=Option.some.inj (e1.symm.trans (hgg blk hget));have hF:=hmap.fit hK (Nat.le_of_lt hl);obtain ⟨es',clock',hr,F',hput,_,_,hin⟩:=Maps.fit_store (R':=rdI) (Maps.string_keyed hK) hT hh hF (Nat.lt_of_le_of_lt hmap.2.1 hl) (fun _ _ _ _ hz=>hz) (WideMaps.keyOf_string_mk hK hb) (val := .int .i64 n) (yv:=(.lit (.int .i64 n),[])) (by simp [rdI,hn]);have hM:=hmap.put hK hl hb hn F' hput hin;have hsz:(ChangeMaps.setBlock m.w g' (.map es' clock')).heap.size=m.w.heap.size:=by simp [ChangeMaps.setBlock]
  have ho : ∀ k,k≠g'→(ChangeMaps.setBlock m.w g' (.map es' clock')).heap[k]? = m.w.heap[k]? := fun k hk=>ChangeMaps.heap_setBlock_other hh _ hk
  obtain ⟨k1,k2⟩:=updM_ok hm s t hlo blk ⟨blk.esz,mputA blk.es b n⟩ hget g' e1 es es' clock clock' hh rfl hM (ChangeMaps.setBlock m.w g' (.map es' clock')) (hm.below.trans ⟨⟨rfl,rfl,rfl,by rw[hsz];exact Nat.le_refl _,fun k hk=>ho k (by omega)⟩,fun _=>Nat.le_refl _⟩) hsz ho (ChangeMaps.heap_setBlock_same hh _);intro K Q hQ;refine wp_of_run_skip (w':=ChangeMaps.setBlock m.w g' (.map es' clock')) ?_ (hQ _ ⟨m.ν,_,ChangeMaps.setBlock m.w g' (.map es' clock')⟩ rfl k1 k2 (.any _));simp only[execOp,hop,hv,hkv,hnv,Sem.run_bind,hr];rfl
 ·cases h
end
end Go.Eng

namespace Go.Eng
open Go.RowKit Go.Sort
section
variable {B:Nat} {S:Nat→Prop} {w0:Base} {m:M}
variable {P:Program} {num:Nat→Nat} {o:Oper} {a:Act} {ρ:Opd→AV}
theorem kill_ok {m:M} (hm:MemOK B S w0 m) (s t:Nat):MemOK B S w0 ⟨m.ν,m.own.put s ((m.own s).upd t none),m.w⟩∧Ext B S m ⟨m.ν,m.own.put s ((m.own s).upd t none),m.w⟩:=by
 have old : ∀ s' t' b,(m.own.put s ((m.own s).upd t none)).get s' t'=some b→m.own.get s' t'=some b:=fun s' t' b h=>by
  rw[get_upd]at h;split at h
  ·cases h
  ·exact h
 have he:Ext B S m ⟨m.ν,m.own.put s ((m.own s).upd t none),m.w⟩:=by
  refine ext_of hm (Nat.le_refl _) (fun _ _ _=>rfl) (fun s'=>by rw[cnt_upd];exact Nat.le_refl _) (fun s' t' b' _ hb'=>⟨b',old s' t' b' hb',rfl,rfl,fun _ ar _ _ ha=>⟨ar,ha,rfl⟩⟩) (fun s' t' g hl hg _ => ?_);obtain ⟨b,hb⟩:=hl;exact ⟨s',t',⟨b,old s' t' b hb⟩,hg⟩
 refine ⟨⟨hm.below,hm.size,fun s' t' ht => ?_,fun s' t' b hb => ?_,fun s1 t1 s2 t2 b1 b2 g h1 h2=>hm.inj s1 t1 s2 t2 b1 b2 g (old _ _ _ h1) (old _ _ _ h2)⟩,he⟩
 ·rw[cnt_upd]at ht
  rw[get_upd];split
  ·rfl
  ·exact hm.fresh s' t' ht
 ·exact (hm.blk s' t' b (old s' t' b hb)).ext he rfl fun g x _ hx=>hx
theorem cc_num {m:M} {c:AV} {u:Value} (h:CC B S m c u) (hn:num1 c=true) {w:World} {R:Bool→Nat→Prop}:Rd w R c u:=by
 cases c<;>simp [num1]at hn
 ·cases h with
  | rd h=>cases h;exact .int _ _
 ·cases h with
  | rd h=>cases h;exact .bool _
theorem lost_eq (ow:Own) (s t:Nat) (b:Blk):((ow.put s (((ow s).upd t none).new b)).put s (((ow.put s (((ow s).upd t none).new b)) s).upd (ow.cnt s) none))=ow.put s (((ow s).upd t none).lost):=by
 rw[Own.put_same,Own.put_put];congr 1;unfold Site.new Site.lost Site.upd Own.cnt;congr 1;funext t'
 by_cases h:t'=(ow s).cnt<;>simp [h]
theorem do_apf (hm:MemOK B S w0 m) (hs:Says B S m ρ a.eval) {esz bytes:Nat} {x' y':Opd} (h:okOp P num o.op (.apf esz bytes x' y')=true) {ys:List (List AV)} (hy:elemsOf m.own (ρ y')=some ys) (hz : ∀ e∈ys,e.length=esz ∧ ∀ c∈e,num1 c=true) {s t:Nat} {b:Blk} (hx:ρ x' = .row s t esz 0 0) (hget:m.own.get s t=some b)
  (hbz:b.esz=esz) (hroom:ys.length*bytes≤roomMax) (h63:ys.length≤9223372036854775807) :
  Does B S w0 P o a m (.tur (.sl false ys) (m.own.put s (((m.own s).upd t none).lost))):=by
 have h':okOp P num o.op (.app 0 esz bytes x' y')=true:=h;have hd:=do_app_row hm hs h' hy (fun e he=>(hz e he).1) hx hget hbz (Nat.zero_le _) (by simpa using hroom) (by simpa using h63);intro K Q hK;refine hd K Q fun u m' hown hm' hext hcv => ?_
 change m'.own=m.own.put s (((m.own s).upd t none).new ⟨esz,b.es.take 0++ys⟩) at hown;change CV B S m' (.row s (m.own.cnt s) esz 0 (0+ys.length)) u at hcv;obtain ⟨k1,k2⟩:=kill_ok hm' s (m.own.cnt s);have hg':m'.own.get s (m.own.cnt s)=some ⟨esz,ys⟩:=by
  rw[hown,get_move,if_pos ⟨rfl,rfl⟩];simp
 refine hK u ⟨m'.ν,m'.own.put s ((m'.own s).upd (m.own.cnt s) none),m'.w⟩ ?_ k1 (hext.trans k2) ?_
 ·show m'.own.put s ((m'.own s).upd (m.own.cnt s) none)=_
  rw[hown];exact lost_eq _ _ _ _
 ·obtain ⟨ad,cap,hu,ht,hz0,hlc,ha,hb⟩:=cv_row hcv
  obtain ⟨_,hor⟩:=hb _ hg';obtain ⟨hzz,hmat⟩:=hm'.blkC hg' (cv_row_lo hcv);subst hu;rw[Nat.zero_add]at hlc hor ⊢;show CV B S _ (.sl false ys) _;refine .ca (.one (.rd ?_));by_cases hys:ys=[]
  ·subst hys
   exact .sl0 _ _ _
  ·rcases hor with ⟨hl0,_⟩|⟨g,arr,e,hg,hae,hh,hle⟩
   ·exact absurd (List.eq_nil_of_length_eq_zero hl0) hys
   ·rw[hg]at hmat
    obtain ⟨hB,arr2,e2,hh2,hcc⟩:=hmat;rw[hh]at hh2;obtain ⟨rfl,rfl⟩:arr=arr2∧e=e2:=by simpa using hh2
    rw[hae];refine Rd.sl false ys g (0*esz) esz cap (fun i j=>(arr[i*esz+j]?).getD undef) hys hz0 (.inr (.inl ⟨hB,fun s' t' hl hgg => ?_⟩)) hlc (fun e he=>(hz e he).1) (fun i e hi j c hj => ?_) (fun i e hi j c hj => ?_)
    ·obtain ⟨b',hb'⟩:=Option.isSome_iff_exists.1 hl
     change Own.get (m'.own.put s ((m'.own s).upd (m.own.cnt s) none)) s' t'=some b' at hb';rw[get_upd]at hb';split at hb'
     ·cases hb'
     ·rename_i hne
      exact hne (hm'.inj _ _ _ _ _ _ _ hb' hg' hgg hg)
    ·obtain ⟨u,hu,_⟩:=hcc i e hi j c hj
     rw[Nat.zero_mul,Nat.zero_add,cell_at hh];have hu:arr[i*esz+j]? = some u:=hu;rw[hu];rfl
    ·obtain ⟨u,hu,hcu⟩:=hcc i e hi j c hj
     have hu:arr[i*esz+j]? = some u:=hu;rw[hu];exact cc_num hcu ((hz e (List.mem_of_getElem? hi)).2 c (List.mem_of_getElem? hj))
end
section
variable {cmp:Nat→List AV→Option AV} {f:Nat} {es es':List (List AV)}
theorem SrtIs.nodup (h:SrtIs cmp f es es'):es'.Nodup:=by
 unfold List.Nodup;rw[List.pairwise_iff_getElem];intro i j hi hj hij e;obtain ⟨r,h1,h2⟩:=h.ord i j _ _ (List.getElem?_eq_getElem hi) (List.getElem?_eq_getElem hj);obtain ⟨q,h3,h4⟩:=h.ord i i _ _ (List.getElem?_eq_getElem hi) (List.getElem?_eq_getElem hi);rw[←e,h3]at h1;obtain rfl:q=r:=by simpa using h1
 have:=h4.1 (h2.2 hij)
 omega
theorem nd_inj {α:Type} {l:List α} (h:l.Nodup) {i j:Nat} (hi:i<l.length) (hj:j<l.length) (e:l[i]=l[j]):i=j:=by
 unfold List.Nodup at h;rw[List.pairwise_iff_getElem]at h;rcases Nat.lt_trichotomy i j with h1|h1|h1
 ·exact absurd e (h i j hi hj h1)
 ·exact h1
 ·exact absurd e.symm (h j i hj hi h1)
theorem srt_plain (h:SrtIs cmp f es es') : ∃ cf:Fin es.length→Fin es.length→Int,(∀ k l:Fin es.length,cmp f [.agg es[k],.agg es[l]]=some (.int .i64 (cf k l)))∧SWO (ltC cf)∧(∀ x y,(ltC cf) x y=false→(ltC cf) y x=false→x=y) ∧
  ((List.finRange es.length).mergeSort fun x y => !(ltC cf) y x).map (fun k=>es[k])=es':=by
 have hpos : ∀ k:Fin es.length,∃ p:Nat,es'[p]? = some es[k]:=fun k=>List.getElem?_of_mem (h.perm.mem_iff.2 (List.getElem_mem k.2))
 let pos:Fin es.length→Nat:=fun k=>(hpos k).choose
 have hp : ∀ k,es'[pos k]? = some es[k]:=fun k=>(hpos k).choose_spec
 have hnd:es.Nodup:=h.perm.nodup_iff.1 h.nodup;have inj : ∀ k l,pos k=pos l→k=l:=fun k l e=>by
  have h1:=hp k;rw[e,hp l]at h1;have h2:es[l]=es[k]:=by simpa using h1
  exact (Fin.ext (nd_inj hnd l.2 k.2 h2)).symm
 let cf:Fin es.length→Fin es.length→Int:=fun k l=>(h.ord _ _ _ _ (hp k) (hp l)).choose
 have hcf : ∀ k l,cmp f [.agg es[k],.agg es[l]]=some (.int .i64 (cf k l))∧(cf k l<0↔pos k<pos l):=fun k l=>(h.ord _ _ _ _ (hp k) (hp l)).choose_spec
 have hlt : ∀ k l,ltC cf k l=decide (pos k<pos l):=fun k l=>by
  unfold ltC;exact decide_eq_decide.2 (hcf k l).2
 refine ⟨cf,fun k l=>(hcf k l).1,⟨fun x=>by rw[hlt];simp,fun x y z=>by rw[hlt,hlt,hlt];simp only[decide_eq_true_eq];omega,fun x y z=>by rw[hlt,hlt,hlt];simp only[decide_eq_false_iff_not];omega⟩,fun x y=>by
  rw[hlt,hlt];simp only[decide_eq_false_iff_not];intro h1 h2;exact inj x y (by omega),?_⟩
 have hms:=List.pairwise_mergeSort (le:=fun x y => !(ltC cf) y x) (fun x y z=>by simp only[hlt,Bool.not_eq_true',decide_eq_false_iff_not];omega) (fun x y=>by simp only[hlt,Bool.or_eq_true,Bool.not_eq_true',decide_eq_false_iff_not];omega) (List.finRange es.length);have hperm:=List.mergeSort_perm (List.finRange es.length) (fun x y => !(ltC cf) y x);generalize ((List.finRange es.length).mergeSort fun x y => !(ltC cf) y x)=ks at hms hperm;have hkn:ks.Nodup:=hperm.nodup_iff.2 (List.nodup_finRange _);have hfin:(List.finRange es.length).map (fun k=>es[k])=es:=by
  apply List.ext_getElem
  ·simp
  ·intro i h1 h2;simp
 refine SrtIs.uniq (cmp:=cmp) (f:=f) (es:=es) ⟨?_,h.cln,fun i j x y hx hy => ?_⟩ h
 ·exact (hperm.map _).trans (by rw[hfin])
 ·rw[List.getElem?_map]at hx hy
  cases hki:ks[i]? with
  | none=>simp [hki]at hx
  | some k =>
   cases hkj:ks[j]? with
   | none=>simp [hkj]at hy
   | some l =>
    simp only[hki,hkj,Option.map_some,Option.some.injEq]at hx hy;subst hx hy;refine ⟨cf k l,(hcf k l).1,?_⟩;rw[(hcf k l).2];obtain ⟨hi,rfl⟩:=List.getElem?_eq_some_iff.1 hki;obtain ⟨hj,rfl⟩:=List.getElem?_eq_some_iff.1 hkj;rw[List.pairwise_iff_getElem]at hms;have le : ∀ i j (hi:i<ks.length) (hj:j<ks.length),i<j→pos ks[i]<pos ks[j]:=fun i j hi hj hij=>by
     have h1:=hms i j hi hj hij;simp only[hlt,Bool.not_eq_true',decide_eq_false_iff_not]at h1;have h2:pos ks[i]≠pos ks[j]:=fun e=>by
      have:=nd_inj hkn hi hj (inj _ _ e)
      omega
     omega
    constructor
    ·intro hlt'
     rcases Nat.lt_trichotomy i j with h1|h1|h1
     ·exact h1
     ·subst h1;omega
     ·have:=le j i hj hi h1;omega
    ·exact le i j hi hj
theorem srt_plain' {n:Nat} (hn:es.length=n) (h:SrtIs cmp f es es') : ∃ cf:Fin n→Fin n→Int,(∀ (k l:Fin n) x y,es[k.1]? = some x→es[l.1]? = some y→cmp f [.agg x,.agg y]=some (.int .i64 (cf k l)))∧SWO (ltC cf)∧(∀ x y,(ltC cf) x y=false→(ltC cf) y x=false→x=y) ∧
  ((List.finRange n).mergeSort fun x y => !(ltC cf) y x).map (fun k=>(es[k.1]?).getD [])=es':=by
 subst hn;obtain ⟨cf,h1,h2,h3,h4⟩:=srt_plain h;refine ⟨cf,fun k l x y hx hy => ?_,h2,h3,?_⟩
 ·rw[List.getElem?_eq_getElem k.2]at hx
  rw[List.getElem?_eq_getElem l.2]at hy;obtain rfl:=Option.some.inj hx;obtain rfl:=Option.some.inj hy;exact h1 k l
 ·rw[←h4]
  apply List.map_congr_left;intro k _;rw[List.getElem?_eq_getElem k.2];rfl
end
section
variable {α:Type} [Inhabited α] {enc:α→List Value} {k:Nat} {w:World} {blk m:Nat} {dk:Array α} {os:Array Obj}
theorem size_flatC:(flatC enc k dk).size=dk.size*k:=by simp [flatC]
theorem get_flatC {i j:Nat} (hi:i<dk.size) (hj:j<k):(flatC enc k dk)[i*k+j]! = (enc dk[i]!)[j]! := by
 have hlt:i*k+j<dk.size*k:=by
  have:=Nat.mul_le_mul_right k (show i+1≤dk.size from hi)
  rw[Nat.succ_mul]at this;omega
 obtain ⟨e1,e2⟩:=div_mod_at k i j hj;simp [flatC,hlt,e1,e2]
theorem srtW_other {q:Nat} (hq:q<w.heap.size) (hne:q≠blk) (off:Nat):(srtW enc k w blk off m dk os).heap[q]? = w.heap[q]? := by
 unfold srtW;rw[heap_grow_old _ _ (by simpa [putRow,mapBlock,Sort.ahead] using hq)];simp [putRow,mapBlock,Sort.ahead,Array.getElem?_modify,Ne.symm hne]
theorem bel_grow {W w':World} (h:Bel True W.heap.size W w') : ∃ q os',w'=Sort.grow (W.drewN q) os':=by
 refine ⟨w'.drawn-W.drawn,w'.heap.extract W.heap.size w'.heap.size,?_⟩;have h1:w'.heap=W.heap++w'.heap.extract W.heap.size w'.heap.size:=by
  apply Array.ext_getElem?;intro i;rw[Array.getElem?_append];split
  ·rename_i hi
   exact h.block i hi
  ·rename_i hi
   rw[Array.getElem?_extract];split
   ·congr 1;omega
   ·rw[Array.getElem?_eq_none]
    have:=h.size
    omega
 have h2:w'.drawn=W.drawn+(w'.drawn-W.drawn):=by have:=h.drawn trivial;omega
 have h3:=h.os;have h4:=h.tape;have h5:=h.output;cases w';cases W;simp only[Sort.grow,World.drewN]at *;subst h3 h4 h5;congr
end
section
variable {B:Nat} {S:Nat→Prop} {w0:Base} {m:M}
variable {P:Program} {num:Nat→Nat} {o:Oper} {a:Act} {ρ:Opd→AV}
theorem cc_clean {c:AV} {v:Value} (h:CC B S m c v) (hc:Clean c):Rd m.w (safe B S m) c v:=by
 cases h with
 | rd h=>exact h
 | _=>simp [Clean]at hc
theorem srt_args {C:Cl} {I:Keep} (hC:CallsAt I P num C B w0) (hs:Says B S m ρ a.eval) {fs f esz:Nat} {x' c':Opd} (h:okOp P num o.op (.srt fs f esz x' c')=true) (hc:ρ c' = .fn true f (C.num f) []) :
  ∃ ts X v,o.op = .call ⟨.value (.func (num fs)),X,ts⟩∧X.map a.eval = #[v,.func (.func (num f)) #[] #[]]∧CV B S m (ρ x') v:=by
 obtain ⟨xs,ts,hop,he⟩:=inv_call (P:=P) (num:=num) (f:=fs) (xs':=[x',c']) h;obtain ⟨hl,hx⟩:=eqOpds_says hs he;obtain ⟨xl⟩:=xs;match xl,hl,hx with
 | [X,Y],_,hx =>
  refine ⟨ts,_,a.eval X,hop,?_,hx 0 X x' rfl rfl⟩;have h1:=hx 1 Y c' rfl rfl;rw[hc]at h1;have:a.eval Y = .func (.func (num f)) #[] #[]:=by
   rw[hC.c.num]at h1;generalize a.eval Y=fv at h1;cases h1 with
   | ca h1=>cases h1 with
    | one h1=>cases h1 with
     | rd h1=>cases h1
    | fn p f g cs vs hp h1 =>
     have:vs=[]:=List.eq_nil_of_length_eq_zero h1.1.symm
     subst this;rfl
    | fnb f g cs vs hp h1=>exact absurd rfl hp
  simp [this]
theorem do_srt_none {C:Cl} {I:Keep} (hC:CallsAt I P num C B w0) (hm:MemOK B S w0 m) (hs:Says B S m ρ a.eval) {fs f esz:Nat} {x' c':Opd} (h:okOp P num o.op (.srt fs f esz x' c')=true) (hc:ρ c' = .fn true f (C.num f) []) (hk:C.srts fs=some esz)
  (hx : ∀ v,CV B S m (ρ x') v → ∃ p cap,v = .slice p 0 cap):Does B S w0 P o a m (.tur (.tup []) m.own):=by
 obtain ⟨ts,X,v,hop,hX,hv⟩:=srt_args hC hs h hc;obtain ⟨p,cap,rfl⟩:=hx v hv;obtain ⟨s1,s2,_⟩:=hC.c.srt fs esz hk;intro K Q hK;unfold Oper.wp;rw[run_exec_call hop (s1 _ _),hX];refine Calls.mono (s2 p cap _ m.w) fun e w' ⟨he,hw⟩ => ?_
 subst he hw;exact hK _ m rfl hm (Ext.refl m) (.tup [] [] rfl (fun j c v h=>by simp at h))
theorem do_srt {C:Cl} {I:Keep} (hC:CallsAt I P num C B w0) (hm:MemOK B S w0 m) (hs:Says B S m ρ a.eval) {fs f esz:Nat} {x' c':Opd} (h:okOp P num o.op (.srt fs f esz x' c')=true) (hc:ρ c' = .fn true f (C.num f) []) (hk:C.srts fs=some esz)
  {s t len:Nat} {b:Blk} {es':List (List AV)} (hx:ρ x' = .row s t esz 0 len) (hget:m.own.get s t=some b) (hlen:len=b.es.length) (hbz:b.esz=esz) (hbig:len<4611686018427387904) (hsrt:SrtIs C.cmp f b.es es') :
  Does B S w0 P o a m (.tur (.tup []) (m.own.put s ((m.own s).upd t (some ⟨esz,es'⟩)))):=by
 subst hbz;cases hN:b.es.length with
 | zero =>
  have hnil:b.es=[]:=List.eq_nil_of_length_eq_zero hN;have hnil':es'=[]:=List.eq_nil_of_length_eq_zero (hsrt.perm.length_eq.trans hN);have:=do_srt_none hC hm hs h hc hk (fun v hv=>by
   rw[hx]at hv;obtain ⟨ad,cap,rfl,_⟩:=cv_row hv;exact ⟨ad,cap,by rw[hlen,hN]⟩)
  rw[upd_self _ _ _ _ (by rw[hget,hnil'];cases b;simp_all)];exact this
 | succ N =>
  obtain ⟨ts,X,v,hop,hX,hv⟩:=srt_args hC hs h hc;rw[hx]at hv;obtain ⟨ad,cap,rfl,ht,hz0,hlc,ha,hb⟩:=cv_row hv;have hlo:=cv_row_lo hv;obtain ⟨_,hor⟩:=hb b hget;obtain ⟨hzz,hmat⟩:=hm.blkC hget hlo;rcases hor with ⟨hl0,_⟩|⟨g,arr,e,hg,hae,hh,hle⟩
  ·omega
  rw[hg]at hmat;obtain ⟨hB,arr2,e2,hh2,hcc⟩:=hmat;rw[hh]at hh2;obtain ⟨rfl,rfl⟩:arr=arr2∧e=e2:=by simpa using hh2
  have hgl:g<m.w.heap.size:=(Array.getElem?_eq_some_iff.1 hh).1;obtain ⟨cf,c1,c2,c3,c4⟩:=srt_plain' hN hsrt;obtain ⟨s1,_,s3⟩:=hC.c.srt fs b.esz hk;let enc:Fin (N+1)→List Value:=fun k=>(List.range b.esz).map fun j=>(arr[k.1*b.esz+j]?).getD undef
  have hel : ∀ x,(enc x).length=b.esz:=fun x=>by simp [enc]
  have hget2 : ∀ k:Fin (N+1),∃ x,b.es[k.1]? = some x:=fun k=>⟨_,List.getElem?_eq_getElem (by rw[hN];exact k.2)⟩
  have hcell : ∀ (k:Fin (N+1)) (x:List AV),b.es[k.1]? = some x → ∀ (j:Nat) (c:AV),x[j]? = some c → ∃ u,arr[k.1*b.esz+j]? = some u∧(enc k)[j]? = some u∧CC B S m c u:=fun k x hx j c hj=>by
   obtain ⟨u,h1,h2⟩:=hcc k.1 x hx j c hj;have hjl:j<b.esz:=by rw[←hzz x (List.mem_of_getElem? hx)];exact (List.getElem?_eq_some_iff.1 hj).1
   refine ⟨u,h1,?_,h2⟩;simp [enc,List.getElem?_range hjl,h1]
  have hxat : ∀ (k:Fin (N+1)) (j:Nat),j<b.esz → ∃ c u,((b.es[k.1]?).getD [])[j]? = some c∧arr[k.1*b.esz+j]? = some u∧(enc k)[j]? = some u∧CC B S m c u:=fun k j hj=>by
   obtain ⟨x,hx⟩:=hget2 k;have hjx:j<x.length:=by rw[hzz x (List.mem_of_getElem? hx)];exact hj
   obtain ⟨u,h1,h2,h3⟩:=hcell k x hx j _ (List.getElem?_eq_getElem hjx);exact ⟨x[j],u,by rw[hx];exact List.getElem?_eq_getElem hjx,h1,h2,h3⟩
  have h1c : ∀ x,∀ v∈enc x,v.oneCell'=true:=fun x v hv=>by
   obtain ⟨j,hj⟩:=List.getElem?_of_mem hv;obtain ⟨c,u,_,_,h3,h4⟩:=hxat x j (by rw[←hel x];exact (List.getElem?_eq_some_iff.1 hj).1);rw[hj]at h3;obtain rfl:=Option.some.inj h3;exact h4.one
  let d:Array (Fin (N+1)):=(List.finRange (N+1)).toArray
  have hd:d.size=N+1:=by simp [d]
  have hdi : ∀ i,i<N+1→(d[i]!).1=i:=fun i hi=>by
   rw[getElem!_pos d i (by rw[hd];exact hi)];simp [d]
  have hcap:(N+1)*b.esz≤arr.size:=by
   have:(N+1)*b.esz≤(0+cap)*b.esz:=Nat.mul_le_mul_right _ (by omega)
   omega
  have hH:Holds id m.w g (0*b.esz) (flatC enc b.esz d):=fun j hj=>by
   rw[size_flatC,hd]at hj;have hdm:=Nat.div_add_mod j b.esz;have hq:j/b.esz<N+1:=Nat.div_lt_of_lt_mul (by rw[Nat.mul_comm];exact hj);have hr:j%b.esz<b.esz:=Nat.mod_lt _ hz0;have e1:j=j/b.esz*b.esz+j%b.esz:=by rw[Nat.mul_comm];exact hdm.symm
   obtain ⟨c,u,_,h2,h3,_⟩:=hxat ⟨j/b.esz,hq⟩ _ hr;refine ⟨?_,by simp [World.frozen?,hh]⟩;rw[Nat.zero_mul,Nat.zero_add,cell_at hh];conv=>rhs;rw[e1]
   rw[get_flatC (by rw[hd];exact hq) hr];have e2:d[j/b.esz]! = ⟨j/b.esz,hq⟩:=Fin.ext (hdi _ hq);rw[e2];have e3:(enc ⟨j/b.esz,hq⟩)[j%b.esz]! = u:=by
    rw[List.getElem!_eq_getElem?_getD,h3];rfl
   show arr[j]? = some ((enc ⟨j/b.esz,hq⟩)[j%b.esz]!);rw[e3,←h2];show arr[j]? = arr[j/b.esz*b.esz+j%b.esz]?;rw[←e1]
  have hne : ∀ l q,safe B S m l q→q≠g:=fun l q hq e=>by
   subst e;rcases hq with ⟨_,h⟩|⟨_,h⟩|⟨_,h⟩
   ·omega
   ·exact h s t (by rw[hget];rfl) hg
   ·omega
  have hcall:=s3 N enc hel h1c cf c2 (num f) g (0*b.esz) cap d m.w (fun us w=>by
   obtain ⟨x0,hx0⟩:=hget2 ⟨0,by omega⟩;exact (hC.c.cmp f _ _ (c1 _ _ _ _ hx0 hx0)).1 us w) (fun q os dk hdk x y=>by
   obtain ⟨xv,hxv⟩:=hget2 x;obtain ⟨yv,hyv⟩:=hget2 y;have args : ∀ (k:Fin (N+1)) (xv:List AV),b.es[k.1]? = some xv→CA (srtW enc b.esz m.w g (0*b.esz) q dk os).heap.size (fun i=>i<m.w.heap.size) ⟨fun _ _=>none,Own.emp,srtW enc b.esz m.w g (0*b.esz) q dk os⟩ (.agg xv) (.agg (enc k).toArray):=fun k xv hxv=>by
    refine .agg xv (enc k) ⟨by rw[hel,hzz xv (List.mem_of_getElem? hxv)],fun j c v hc hv => .rd ?_⟩;obtain ⟨u,h1,h2,h3⟩:=hcell k xv hxv j c hc;rw[hv]at h2;obtain rfl:=Option.some.inj h2;have hsz:m.w.heap.size≤(srtW enc b.esz m.w g (0*b.esz) q dk os).heap.size:=by simp [srtW,putRow,mapBlock,Sort.ahead]
    exact (cc_clean h3 (cleanL_get (cleanLL_get hsrt.cln k.1 xv hxv) j c hc)).mono (fun l i hi _ => .inl ⟨hi,by omega⟩) (fun l i hi hsf=>srtW_other hi (hne l i hsf) _)
   refine Calls.mono ((hC.c.cmp f _ _ (c1 x y xv yv hxv hyv)).2 (fun i=>i<m.w.heap.size) _ [.agg (enc x).toArray,.agg (enc y).toArray] rfl (fun j c v hc hv => ?_)) fun e w' ⟨u,he,hbel,hcv⟩ => ?_
   ·match j,hc,hv with
    | 0,hc,hv =>
     obtain rfl:=Option.some.inj hc;obtain rfl:=Option.some.inj hv;exact args x xv hxv
    | 1,hc,hv =>
     obtain rfl:=Option.some.inj hc;obtain rfl:=Option.some.inj hv;exact args y yv hyv
    | j+2,hc,hv=>simp at hc
   ·subst he
    exact ⟨by rw[cv_int hcv],bel_grow hbel⟩) hH hgl (by omega) c3
  intro K Q hK;unfold Oper.wp;rw[run_exec_call hop (s1 _ _),hX,hlen,hN,←hd,hae];refine Calls.mono hcall fun e' w' ⟨he',q,os,hw⟩ => ?_
  subst he' hw;have hdl:d.toList=List.finRange (N+1):=by simp [d]
  rw[hdl];generalize hks:((List.finRange (N+1)).mergeSort fun x y => !(ltC cf) y x)=ks at c4;have hkl:ks.length=N+1:=by rw[←hks,List.length_mergeSort];simp
  have harr:(putRow id (Sort.ahead m.w q) g (0*b.esz) (flatC enc b.esz ks.toArray)).heap[g]? = some (.cells (putCells id (0*b.esz) (flatC enc b.esz ks.toArray) arr) e (0,0)):=by
   show (m.w.heap.modify g (onCells _))[g]? = _;rw[Array.getElem?_modify,if_pos rfl,hh];rfl
  obtain ⟨k1,k2⟩:=upd_ok hm s t hlo b ⟨b.esz,es'⟩ hget g hg arr (putCells id (0*b.esz) (flatC enc b.esz ks.toArray) arr) e hh rfl (fun x hx=>hzz x (hsrt.perm.mem_iff.1 hx)) (by simp [putCells]) (fun i cs hi j c hj=>by
    rw[←c4,List.getElem?_map]at hi;cases hki:ks[i]? with
    | none=>simp [hki]at hi
    | some k =>
     simp only[hki,Option.map_some,Option.some.injEq]at hi;have hil:i<ks.length:=(List.getElem?_eq_some_iff.1 hki).1;obtain ⟨x,hx⟩:=hget2 k;rw[hx]at hi;obtain rfl:x=cs:=hi;have hjl:j<b.esz:=by rw[←hzz x (List.mem_of_getElem? hx)];exact (List.getElem?_eq_some_iff.1 hj).1
     obtain ⟨u,h1,h2,h3⟩:=hcell k x hx j c hj;refine ⟨u,?_,h3⟩;have hlt:i*b.esz+j<(N+1)*b.esz:=by
      have:=Nat.mul_le_mul_right b.esz (show i+1≤N+1 by omega)
      rw[Nat.succ_mul]at this;omega
     show (putCells id (0*b.esz) (flatC enc b.esz ks.toArray) arr)[i*b.esz+j]? = some u;unfold putCells;rw[Array.getElem?_mapIdx,Array.getElem?_eq_getElem (by omega),Option.map_some,if_pos ⟨by omega,by rw[size_flatC];simp [hkl];omega⟩,Nat.zero_mul,Nat.sub_zero,get_flatC (by simp [hkl];omega) hjl];have e2:ks.toArray[i]! = k:=by
      rw[getElem!_pos _ i (by simpa using hil)];simpa using (List.getElem?_eq_some_iff.1 hki).2
     rw[e2,List.getElem!_eq_getElem?_getD,h2];rfl) (putRow id (Sort.ahead m.w q) g (0*b.esz) (flatC enc b.esz ks.toArray)) (hm.below.trans ⟨⟨rfl,rfl,rfl,by simp [putRow,mapBlock,Sort.ahead],fun i hi=>by
    simp only[putRow,mapBlock,Sort.ahead,Array.getElem?_modify];rw[if_neg (by omega)]⟩,fun _=>by simp [putRow,mapBlock,Sort.ahead]⟩) (by simp [putRow,mapBlock,Sort.ahead]) (fun i hi=>by
    simp only[putRow,mapBlock,Sort.ahead,Array.getElem?_modify];rw[if_neg (Ne.symm hi)]) harr
  obtain ⟨k3,k4⟩:=grow k1 (w':=srtW enc b.esz m.w g (0*b.esz) q ks.toArray os) ⟨⟨rfl,rfl,rfl,by simp [srtW],fun i hi=>heap_grow_old _ _ hi⟩,fun _=>Nat.le_refl _⟩;exact hK _ ⟨m.ν,_,srtW enc b.esz m.w g (0*b.esz) q ks.toArray os⟩ rfl k3 (k2.trans k4) (.tup [] [] rfl (fun j c v h=>by simp at h))
end
end Go.Eng
