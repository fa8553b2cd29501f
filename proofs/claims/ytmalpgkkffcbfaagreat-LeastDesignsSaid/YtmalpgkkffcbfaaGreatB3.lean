/-
  Each operation of the model does what the abstract machine says of it (all but calls).
-/
import Derived.Test.YtmalpgkkffcbfaaGreatB2
import Derived.Laws.StructEq
import Derived.ChangeKeysEq
import Derived.Laws.Slices
set_option linter.unusedSimpArgs false
set_option linter.unusedVariables false
set_option linter.unnecessarySimpa false
namespace Go.b8
open Go.RowKit
def B9.u5:B9->AH->AH
 | .val _,o=>o
 | .new s b _,o=>o.put s ((o s).new b)
 | .yn s b _,o=>o.put s ((o s).new b)
 | .ct _ o',_=>o'
 | .Al s _ o',o=>o'.put s (o s)
 | .m7 s x,o=>o.put s x
 | .wv s x _,o=>o.put s x
def B9.valOf:B9->AH->AV
 | .val v,_=>v
 | .new s _ v,o=>v (o.e8 s)
 | .yn s _ v,o=>v (o.e8 s)
 | .ct v _,_=>v
 | .Al _ v _,_=>v
 | .m7 _ _,_ => .e6 []
 | .wv _ _ v,_=>v
section
variable {B:Nat} {S:Nat->Prop} {w0:World} {m:M}
theorem HE {k:IntKind} {n:Int} {v:Value} (h:CV B S m (.int k n) v):v = .int k n:=by
 cases h with
 | ca h=>cases h with
  | one h=>cases h with
   | rd h=>cases h;rfl
theorem QZ {b:Bool} {v:Value} (h:CV B S m (.bool b) v):v = .bool b:=by
 cases h with
 | ca h=>cases h with
  | one h=>cases h with
   | rd h=>cases h;rfl
theorem Wo {cs:List AV} {v:Value} (h:CV B S m (.agg cs) v) : ∃ vs:List Value,v = .agg vs.toArray/\CL B S m cs vs:=by
 cases h with
 | ca h=>cases h with
  | one h=>cases h with
   | rd h=>cases h
  | agg _ vs h=>exact ⟨vs,rfl,h⟩
theorem bH {cs:List AV} {v:Value} (h:CV B S m (.e6 cs) v) : ∃ vs:List Value,v = .tuple vs.toArray/\cs.length=vs.length /\ ∀ (j:Nat) (c:AV) (u:Value),cs[j]? = some c->vs[j]? = some u->CA B S m c u:=by
 cases h with
 | ca h=>cases h with
  | one h=>cases h with
   | rd h=>cases h
 | e6 _ vs hl h=>exact ⟨vs,rfl,hl,h⟩
theorem O7 (k:IntKind) (n:Int):CV B S m (.int k n) (.int k n):= .ca (.one (.rd (.int k n)))
theorem YO (b:Bool):CV B S m (.bool b) (.bool b):= .ca (.one (.rd (.bool b)))
theorem rP:CV B S m (.e6 []) undef := .e6 [] [] rfl (λ j c v h=>by simp at h)
theorem XR {a:AV} {cs:List AV} {v:Value} (h:CV B S m a v) (hc:cellsOf a=some cs):CL B S m cs v.cells.toList:=by
 cases h with
 | any v=>simp [cellsOf]at hc
 | e6=>simp [cellsOf]at hc
 | ca h=>cases h with
  | agg dk vs h =>
   obtain rfl:dk=cs:=by simpa [cellsOf] using hc
   simpa [Value.cells] using h
  | fn=>simp [cellsOf]at hc
  | ub=>simp [cellsOf]at hc
  | one h =>
   have h1:v.cells.toList=[v]:=by
    cases h with
    | rd h=>cases h<;>rfl
    | _=>rfl
   have h2:cs=[a]:=by
    cases h with
    | rd h=>cases h<;>simp [cellsOf]at hc<;>exact hc.symm
    | _=>simp [cellsOf]at hc;exact hc.symm
   rw[h1,h2];refine ⟨rfl,λ j c u hj hu => ?_⟩;cases j with
   | zero=>simp at hj hu;subst hj hu;exact h
   | succ j=>simp at hj
theorem Vv {cs:List AV} {vs:List Value} (h:CL B S m cs vs) : ∀ v∈vs,v.oneCell'=true:=by
 intro v hv;obtain ⟨j,hj,rfl⟩:=List.getElem_of_mem hv;have Di:j<cs.length:=by rw[h.1];exact hj
 exact (h.2 j cs[j] vs[j] (zE Di) (zE hj)).one
theorem Vw {cs:List AV} {vs:List Value} (h:CL B S m cs vs) (off n:Nat):CL B S m ((cs.drop off).take n) ((vs.drop off).take n):=by
 refine ⟨by simp [h.1],λ j c v hj hv => ?_⟩;rw[List.getElem?_take]at hj hv;split at hj
 ·rename_i g9
  rw[if_pos g9]at hv;rw[List.getElem?_drop]at hj hv;exact h.2 _ c v hj hv
 ·cases hj
theorem nG {v:Value} {a:AV} (h:X3 v a=true):CC B S m a v:=by
 unfold X3 at h;split at h
 ·simp only[Bool.and_eq_true,beq_iff_eq]at h
  obtain ⟨rfl,rfl⟩:=h;exact .rd (.int _ _)
 ·obtain rfl:_=_:=by simpa using h
  exact .rd (.bool _)
 ·exact .nil
 ·rename_i s s'
  obtain rfl:s=s':=by
   have h':s.data.toList=s'.data.toList:=by simpa using h
   obtain ⟨⟨l⟩⟩:=s;obtain ⟨⟨l'⟩⟩:=s';simp only at h';rw[h']
  exact .rd (.str _)
 ·exact .rd .lf
 ·cases h
theorem SU : ∀ {vs:List Value} {cs:List AV},OZ vs cs=true->CL B S m cs vs
 | [],[],_=>⟨rfl,λ j c v h=>by simp at h⟩
 | v::r,c::l,h=>by
  simp only[OZ,Bool.and_eq_true]at h;have ih:=SU (vs:=r) (cs:=l) h.2;refine ⟨by simp [ih.1],λ j c' v' hj hv => ?_⟩;cases j with
  | zero=>simp at hj hv;subst hj hv;exact nG h.1
  | succ j=>exact ih.2 j c' v' (by simpa using hj) (by simpa using hv)
 | [],_::_,h=>by simp [OZ]at h
 | _::_,[],h=>by simp [OZ]at h
theorem Xy {v:Value} {a:AV} (h:cF v a=true):CV B S m a v:=by
 unfold cF at h;split at h
 ·rename_i cs l
  have:=SU (B:=B) (S:=S) (m:=m) h
  exact .ca (by simpa using CA.agg l cs.toList this)
 ·exact .ca (.one (nG h))
def CM (B:Nat) (S:Nat->Prop) (m:M) (ρ:AP->AV) (e:Operand->Value):Prop := ∀ x y,BZ x y=true->CV B S m (ρ y) (e x)
theorem AgQ {T:Nat->AV} {a:Act} {ρ:AP->AV} (hρt : ∀ n,ρ (.t n)=T n) (Qr : ∀ v,ρ (.c v)=v) (h : ∀ i,CV B S m (T i) (a.tmps.getD i undef)):CM B S m ρ a.eval:=by
 intro x y nq;unfold BZ at nq;split at nq
 ·obtain rfl:_=_:=by simpa using nq
  rw[hρt];exact h _
 ·rw[Qr]
  exact Xy nq
 ·obtain rfl:_=_:=by simpa using nq
  rw[Qr];exact .ca (.fn _ _ _ [] [] (λ_=>rfl) ⟨rfl,λ j c v h=>by simp at h⟩)
 ·cases nq
variable {P:Program} {num:Nat->Nat} {o:Oper} {a:Act} {ρ:AP->AV} {K:Act->World->Prop} {Q:Exit->Act->World->Prop}
theorem OI {w w':World} {u:Value} (h:(execOp a.eval o).run P w = .ok (.value u) w') (hk:K (a.put o.dst u) w'):o.wp P a w K Q:=by
 unfold Oper.wp;rw[h];exact hk
theorem AhQ {w w':World} (h:(execOp a.eval o).run P w = .ok .skip w') (hk:K (a.put o.dst undef) w'):o.wp P a w K Q:=by
 unfold Oper.wp;rw[h];exact hk
def CQ (B:Nat) (S:Nat->Prop) (w0:World) (P:Program) (o:Oper) (a:Act) (m:M) (E:B9):Prop :=
 ∀ (K:Act->World->Prop) (Q:Exit->Act->World->Prop),(∀ u m',m'.own=E.u5 m.own->BP B S w0 m'->DG B S m m'->CV B S m' (E.valOf m.own) u->K (a.put o.dst u) m'.w)->o.wp P a m.w K Q
theorem EB (hm:BP B S w0 m) {v:AV} {u:Value} (h:(execOp a.eval o).run P m.w = .ok (.value u) m.w) (hc:CV B S m v u):CQ B S w0 P o a m (.val v) :=
 λ K Q hK=>OI h (hK u m rfl hm (DG.refl m) hc)
theorem Yt (hm:BP B S w0 m) (hs:CM B S m ρ a.eval) {y:AP} (h:BD P num o.op (.n0 y)=true):CQ B S w0 P o a m (.val (ρ y)):=by
 obtain ⟨x,hx,he⟩:=Afa h;refine EB hm (u:=a.eval x) ?_ (hs x y he);rcases hx with hx|hx<;>simp [execOp,hx]
theorem Za (hm:BP B S w0 m) {s z:Nat} (h:BD P num o.op (.v9 s z)=true):CQ B S w0 P o a m (.yn s ⟨z,[]⟩ (λ t => .row s t z 0 0)):=by
 obtain ⟨hx,hz⟩:=Afh h;intro K Q hK;obtain ⟨h1,h2⟩:=xB hm s z;refine OI (u := .slice none 0 0) (w':=m.w) ?_ (hK _ ⟨e9 m s none,m.own.put s ((m.own s).new ⟨z,[]⟩),m.w⟩ rfl h1 h2 ?_)
 ·rcases hx with hx|hx<;>simp [execOp,hx,Act.eval]
 ·refine .ca (.one (.row s (m.own.e8 s) z 0 0 none 0 ?_ (by omega) (Nat.le_refl _) (λ h=>by omega) λ b hb => ?_))
  ·show _<AH.e8 _ s
   rw[KN];simp
  ·change AH.get _ s _=some b at hb
   rw[FS,if_pos ⟨rfl,rfl⟩]at hb;obtain rfl:(⟨z,[]⟩:DR)=b:=by simpa using hb
   exact ⟨rfl,.inl ⟨rfl,rfl⟩⟩
theorem mH (hm:BP B S w0 m) (hs:CM B S m ρ a.eval) {c' a' b':AP} (h:BD P num o.op (.pick c' a' b')=true) {t:Bool} (hc:ρ c' = .bool t) :
  CQ B S w0 P o a m (.val (if t then ρ a' else ρ b')):=by
 obtain ⟨c,x,y,j9,h1,h2,h3⟩:=Afc h;have s9:=QZ (hc ▸ hs c c' h1);refine EB hm (u:=if t then a.eval x else a.eval y) ?_ ?_
 ·cases t<;>simp [execOp,j9,s9,asBool]
 ·cases t
  ·exact hs y b' h3
  ·exact hs x a' h2
theorem AgL (f:BinOp) (t:TypeId) (k k':IntKind) (x y:Int) (v:AV) (h:C9 f k x k' y=some v) (w:World) : ∃ u,(binOp f t (.int k x) (.int k' y)).run P w = .ok u w/\((∃ n,v = .int k n/\u = .int k n) \/ ∃ b,v = .bool b/\u = .bool b):=by
 cases f<;>simp only[C9]at h;case shl =>
  split at h
  ·cases h
  ·rename_i hy;simp at h;subst h
   exact ⟨_,by simp [binOp,Op.shift,hy],.inl ⟨_,rfl,rfl⟩⟩
 case shr =>
  split at h
  ·cases h
  ·rename_i hy;simp at h;subst h
   exact ⟨_,by simp [binOp,Op.shift,hy],.inl ⟨_,rfl,rfl⟩⟩
 case quo =>
  split at h
  ·rename_i hy;obtain ⟨rfl,hy⟩:=hy;simp at h;subst h
   exact ⟨_,by simp [binOp,Op.intDiv,hy],.inl ⟨_,rfl,rfl⟩⟩
  ·cases h
 case rem =>
  split at h
  ·rename_i hy;obtain ⟨rfl,hy⟩:=hy;simp at h;subst h
   exact ⟨_,by simp [binOp,Op.intDiv,hy],.inl ⟨_,rfl,rfl⟩⟩
  ·cases h
 case and|or|xor|andNot =>
  all_goals
   split at h
   ·rename_i hk;subst hk;obtain rfl:=Option.some.inj h
    exact ⟨_,by simp only[binOp,ne_eq,not_true_eq_false,if_false];rfl,.inl ⟨_,rfl,rfl⟩⟩
   ·cases h
 case add|sub|mul =>
  all_goals
   split at h
   ·rename_i hk;subst hk;obtain rfl:=Option.some.inj h
    exact ⟨_,by simp [binOp,Op.intArith],.inl ⟨_,rfl,rfl⟩⟩
   ·cases h
 all_goals
  split at h
  ·rename_i hk;subst hk;obtain rfl:=Option.some.inj h
   exact ⟨_,by simp [binOp,Op.intCmp],.inr ⟨_,rfl,rfl⟩⟩
  ·cases h
theorem AgF (f:BinOp) (t:TypeId) (x y:Operand) (k k':IntKind) (n n':Int) (w:World):(eqGuard f t x y (.int k n) (.int k' n')).run P w = .ok () w:=by
 unfold eqGuard;cases f<;>simp
theorem AgG (f:BinOp) (t:TypeId) (x y:Operand) (b b':Bool) (w:World):(eqGuard f t x y (.bool b) (.bool b')).run P w = .ok () w:=by
 unfold eqGuard;cases f<;>simp
theorem Vr (hm:BP B S w0 m) (hs:CM B S m ρ a.eval) {f:BinOp} {x' y':AP} (h:BD P num o.op (.bin f x' y')=true) {k k':IntKind} {n n':Int} {v:AV} (hx:ρ x' = .int k n) (hy:ρ y' = .int k' n') (hv:C9 f k n k' n'=some v) :
  CQ B S w0 P o a m (.val v):=by
 obtain ⟨t,x,y,u,j9,h1,h2⟩:=AeU h;have ex:=HE (hx ▸ hs x x' h1);have ey:=HE (hy ▸ hs y y' h2);obtain ⟨r,hr,bn⟩:=AgL (P:=P) f t k k' n n' v hv m.w;refine EB hm (u:=r) ?_ ?_
 ·simp [execOp,j9,ex,ey,AgF,hr]
 ·rcases bn with ⟨q,rfl,rfl⟩|⟨q,rfl,rfl⟩
  ·exact O7 _ _
  ·exact YO _
theorem AgI (t:TypeId) (b b':Bool) (hu:P.underlying t=some .bool) (w:World):(Op.equal t (.bool b) (.bool b')).run P w = .ok (b == b') w:=by
 have h : ∀ d:Nat,(Op.equalIn (d+1) t (.bool b) (.bool b')).run P w = .ok (b == b') w:=λ d=>by
  unfold Op.equalIn;rw[Sem.run_bind,run_underlying hu];rfl
 exact h 9999
theorem Vq (hm:BP B S w0 m) (hs:CM B S m ρ a.eval) {ne:Bool} {x' y':AP} (h:BD P num o.op (.beq ne x' y')=true) {b b':Bool} (hx:ρ x' = .bool b) (hy:ρ y' = .bool b') :
  CQ B S w0 P o a m (.val (.bool (if ne then !(b == b') else b == b'))):=by
 obtain ⟨t,x,y,u,j9,hu,h1,h2⟩:=AeT h;have ex:=QZ (hx ▸ hs x x' h1);have ey:=QZ (hy ▸ hs y y' h2);refine EB hm (u := .bool (if ne then !(b == b') else b == b')) ?_ (YO _);cases ne<;>simp [execOp,j9,ex,ey,AgG,binOp,AgI t b b' hu]
theorem Yz (hm:BP B S w0 m) (hs:CM B S m ρ a.eval) {f:UnOp} {x':AP} (h:BD P num o.op (.un f x')=true) {v:AV} (hv:QI f (ρ x')=some v):CQ B S w0 P o a m (.val v):=by
 obtain ⟨t,x,j9,h1⟩:=Afg h;have hx:=hs x x' h1;unfold QI at hv;split at hv
 ·rename_i k n hk
  have ex:=HE (hk ▸ hx);split at hv
  ·obtain rfl:_=v:=by simpa using hv
   exact EB hm (by simp [execOp,j9,ex,Op.unary,Op.intArith]) (O7 _ _)
  ·obtain rfl:_=v:=by simpa using hv
   exact EB hm (by simp only[execOp,j9,ex,Op.unary];rfl) (O7 _ _)
  ·cases hv
 ·rename_i b hk
  have ex:=QZ (hk ▸ hx);split at hv
  ·obtain rfl:_=v:=by simpa using hv
   exact EB hm (by simp [execOp,j9,ex,Op.unary]) (YO _)
  ·cases hv
 ·cases hv
theorem Ye (hm:BP B S w0 m) (hs:CM B S m ρ a.eval) {k:IntKind} {x':AP} (h:BD P num o.op (.conv k x')=true) {k':IntKind} {n:Int} (hx:ρ x' = .int k' n):CQ B S w0 P o a m (.val (.int k (k.wrap n))):=by
 obtain ⟨s,d,x,ds,j9,Bm,hd,h1⟩:=Ae3 h;have ex:=HE (hx ▸ hs x x' h1);refine EB hm (u := .int k (k.wrap n)) ?_ (O7 _ _);simp [execOp,j9,ex,convert,run_underlying Bm,run_underlying hd,Conv.intToInt]
theorem AgJ (t:TypeId) (a:Option Addr) (n c:Nat) {e:TypeId} (hu:P.underlying t=some (.slice e)) (w:World):(Op.equal t (.slice a n c) (.slice none 0 0)).run P w = .ok a.isNone w:=by
 have h : ∀ d:Nat,(Op.equalIn (d+1) t (.slice a n c) (.slice none 0 0)).run P w = .ok a.isNone w:=λ d=>by
  unfold Op.equalIn;rw[Sem.run_bind,run_underlying hu];cases a<;>rfl
 exact h 9999
theorem AgH (f:BinOp) (t:TypeId) (x y:Operand) (a b:Option Addr) (n c n' c':Nat) (w:World):(eqGuard f t x y (.slice a n c) (.slice b n' c')).run P w = .ok () w:=by
 unfold eqGuard;cases f<;>simp
theorem XZ (hm:BP B S w0 m) (hs:CM B S m ρ a.eval) {ne:Bool} {x':AP} (h:BD P num o.op (.ta ne x')=true) {b:Bool} (hx : ∀ v,CV B S m (ρ x') v -> ∃ ad n c,v = .slice ad n c/\ad.isNone=b) :
  CQ B S w0 P o a m (.val (.bool (xor b ne))):=by
 obtain ⟨t,x,u,e,j9,hu,h1⟩:=Ae6 h;obtain ⟨ad,n,c,ex,hb⟩:=hx _ (hs x x' h1);refine EB hm (u := .bool (xor b ne)) ?_ (YO _);have e0:a.eval (.const (.slice none 0 0)) = .slice none 0 0:=rfl;cases ne<;>cases b<;>simp [execOp,j9,ex,e0,AgH,binOp,AgJ t ad n c hu,hb]
theorem PU {v:Value} (h:CV B S m .nil v):v = .slice none 0 0:=by
 cases h with
 | ca h=>cases h with
  | one h=>cases h with
   | rd h=>cases h
   | nil=>rfl
theorem lS {b:Bool} {v:Value} (h:CV B S m (.bj (.bool b)) v) : ∃ ad c,v = .slice ad 0 c/\ad.isNone=b:=by
 cases h with
 | ca h=>cases h with
  | one h=>cases h with
   | rd h=>cases h with
    | emp b a cap h=>exact ⟨a,cap,rfl,h⟩
theorem Ws {l:Bool} {e:List AV} {es:List (List AV)} {v:Value} (h:CV B S m (.sl l (e::es)) v) : ∃ ad n c,v = .slice ad n c/\ad.isNone=false:=by
 cases h with
 | ca h=>cases h with
  | one h=>cases h with
   | rd h=>cases h with
    | sl=>exact ⟨_,_,_,rfl,rfl⟩
theorem Wr {s t z off n:Nat} {v:Value} (h:CV B S m (.row s t z off (n+1)) v) : ∃ ad n c,v = .slice ad n c/\ad.isNone=false:=by
 cases h with
 | ca h=>cases h with
  | one h=>cases h with
   | rd h=>cases h
   | row _ _ _ _ _ a cap _ _ _ ha=>exact ⟨_,_,_,rfl,by have:=ha (by omega);cases a<;>simp_all⟩
theorem Yv (hm:BP B S w0 m) (hs:CM B S m ρ a.eval) {tb:List Nat} {x':AP} (h:BD P num o.op (.gf tb x')=true) {k:IntKind} {n:Int} {v:Nat} (hx:ρ x' = .int k n) (h0:0<=n) (hv:tb[n.toNat]? = some v) :
  CQ B S w0 P o a m (.val (.int .u8 v)):=by
 obtain ⟨t,s,i,j9,hu,tk,h1⟩:=Afd h;have ex:=HE (hx ▸ hs i x' h1);have hb : ∃ b:UInt8,s[n.toNat]? = some b/\b.toNat=v:=by
  rw[<-tk,List.getElem?_map]at hv;cases hg:s.data.toList[n.toNat]? with
  | none=>simp [hg]at hv
  | some b =>
   simp only[hg,Option.map_some,Option.some.injEq]at hv;refine ⟨b,?_,hv⟩;have g9:n.toNat<s.size:=by
    have:=(zS hg).1
    simpa using this
   rw[getElem?_pos s n.toNat g9];congr 1;have:=(zS hg).2
   rw[<-this];rfl
 obtain ⟨b,uf,o3⟩:=hb;refine EB hm (u := .int .u8 v) ?_ (O7 _ _);have e0:a.eval (.const (.string s)) = .string s:=rfl;simp [execOp,j9,ex,e0,Instr.index,asIntOf,run_underlying hu,h0,uf,o3]
theorem AfY {x c:AV} {v:Value} (h:CV B S m x v) (hc:GH x=some c):CC B S m c v:=by
 cases h with
 | any=>simp [GH]at hc
 | e6=>simp [GH]at hc
 | ca h=>cases h with
  | agg=>simp [GH]at hc
  | fn=>simp [GH]at hc
  | ub=>simp [GH]at hc
  | one h =>
   have:c=x:=by
    cases h with
    | rd h=>cases h<;>simp [GH]at hc<;>exact hc.symm
    | _=>simp [GH]at hc;exact hc.symm
   subst this;exact h
theorem nF (hs:CM B S m ρ a.eval) : ∀ {xs:List Operand} {l8:List AP} {cs:List AV},D5 xs l8=true->l8.mapM (λ x=>GH (ρ x))=some cs->CL B S m cs (xs.map a.eval)
 | [],[],cs,_,h=>by
  simp at h;subst h;exact ⟨rfl,λ j c v h=>by simp at h⟩
 | x::r,y::l,cs,h,hc=>by
  simp only[D5,Bool.and_eq_true]at h;simp only[List.mapM_cons,Option.bind_eq_bind,Option.pure_def]at hc;cases h1:GH (ρ y) with
  | none=>simp [h1]at hc
  | some c =>
   cases h2:l.mapM (λ x=>GH (ρ x)) with
   | none=>simp [h1,h2]at hc
   | some dk =>
    simp [h1,h2]at hc;subst hc;have ih:=nF hs h.2 h2;refine ⟨by simpa using ih.1,λ j c' v hj hv => ?_⟩;cases j with
    | zero =>
     simp at hj hv;subst hj hv;exact AfY (hs x y h.1) h1
    | succ j=>exact ih.2 j c' v (by simpa using hj) (by simpa using hv)
 | [],_::_,_,h,_=>by simp [D5]at h
 | _::_,[],_,h,_=>by simp [D5]at h
theorem Yq (hm:BP B S w0 m) (hs:CM B S m ρ a.eval) {p:Bool} {f:Nat} {l8:List AP} (h:BD P num o.op (.pz p f l8)=true) {cs:List AV} (hc:l8.mapM (λ x=>GH (ρ x))=some cs) :
  CQ B S w0 P o a m (.val (.fn (p&&cs.isEmpty) f (num f) cs)):=by
 obtain ⟨first,xs,j9,rfl,he⟩:=Ae9 h;have m5:=nF hs he hc;have ft:(xs.map a.eval)=(xs.toList.map a.eval).toArray:=by cases xs;simp
 refine EB hm (u := .func (.func (num f)) #[] (xs.toList.map a.eval).toArray) ?_ (.ca (.fn (p&&cs.isEmpty) f (num f) cs _ (λ h=>by simpa using (Bool.and_eq_true _ _ ▸ h:p=true/\cs.isEmpty=true).2) m5));simp [execOp,j9,Instr.makeFunc,ft]
end
end Go.b8
namespace Go.b8
open Go.RowKit
section
variable {B:Nat} {S:Nat->Prop} {w0:World} {m:M}
variable {P:Program} {num:Nat->Nat} {o:Oper} {a:Act} {ρ:AP->AV}
theorem SM {cs:List AV} {vs:List Value} (h:CL B S m cs vs) {j:Nat} {c:AV} (hj:cs[j]? = some c) : ∃ u,vs[j]? = some u/\CC B S m c u:=by
 have g9:j<cs.length:=(zS hj).1;have ur:j<vs.length:=by rw[<-h.1];exact g9
 exact ⟨vs[j],zE ur,h.2 j c _ hj (zE ur)⟩
theorem AfQ {s:Nat} {b:DR} {w':World} {g:Nat}:CV B S ⟨e9 m s (some g),m.own.put s ((m.own s).new b),w'⟩ (.ptr s (m.own.e8 s) 0 0) (.pointer (some ⟨g,0,none⟩)):=by
 refine .ca (.one (.ptr s (m.own.e8 s) 0 0 ⟨g,0,none⟩ ?_ λ b' j7=>⟨g,?_,by simp⟩))
 ·show _<AH.e8 _ s
  rw[KN];simp
 ·simp [e9]
theorem mG (hm:BP B S w0 m) (s:Nat) (cs:List AV) (vs:Array Value) (e:TypeId) (hc:CL B S m cs vs.toList) (h:(execOp a.eval o).run P m.w = .ok (.value (.pointer (some ⟨m.w.heap.size,0,none⟩))) (m.w.alloc (.cells vs e))) :
  CQ B S w0 P o a m (.new s ⟨cs.length,[cs]⟩ (λ t => .ptr s t 0 0)):=by
 intro K Q hK;obtain ⟨h1,h2⟩:=W7 hm s ⟨cs.length,[cs]⟩ vs e (by simp) (λ i dk hi j c hj=>by
  cases i with
  | zero =>
   obtain rfl:cs=dk:=by simpa using hi
   obtain ⟨u,hu,u7⟩:=SM hc hj;exact ⟨u,by simpa using hu,u7⟩
  | succ i=>simp at hi)
 exact OI h (hK _ ⟨e9 m s (some m.w.heap.size),m.own.put s ((m.own s).new ⟨cs.length,[cs]⟩),m.w.alloc (.cells vs e)⟩ rfl h1 h2 AfQ)
theorem Uh (hm:BP B S w0 m) (hs:CM B S m ρ a.eval) {s:Nat} {x':AP} (h:BD P num o.op (.box s x')=true) {cs:List AV} (hc:cellsOf (ρ x')=some cs) :
  CQ B S w0 P o a m (.new s ⟨cs.length,[cs]⟩ (λ t => .ptr s t 0 0)):=by
 obtain ⟨t,x,j9,h1⟩:=AeV h;exact mG hm s cs (a.eval x).cells t (XR (hs x x' h1) hc) (by simp [execOp,j9,Instr.box,newVar,newRow])
theorem Vm (hm:BP B S w0 m) {s:Nat} {z:List AV} (h:BD P num o.op (.alloc s z)=true):CQ B S w0 P o a m (.new s ⟨z.length,[z]⟩ (λ t => .ptr s t 0 0)):=by
 obtain ⟨t,j9,h1⟩:=AeR h;obtain ⟨i,v,hi,hz,he⟩:=iS h1;exact mG hm s z v.cells t (SU he) (by simp [execOp,j9,Instr.alloc,zeroValue,typeInfo,hi,hz,newVar,newRow])
theorem dG (off:Nat) : ∀ (vs:List Value) (k:Nat) (cells:Array Value),off+k+vs.length<=cells.size ->
  ((vs.zipIdx k).foldl (λ cs (x:Value × Nat)=>cs.setIfInBounds (off+x.2) x.1) cells).toList=cells.toList.take (off+k)++vs++cells.toList.drop (off+k+vs.length)
 | [],k,cells,_=>by simp
 | v::r,k,cells,h=>by
  simp only[List.length_cons]at h;rw[List.zipIdx_cons,List.foldl_cons,dG off r (k+1) _ (by simp;omega)];simp only[Array.toList_setIfInBounds,List.length_cons];apply List.ext_getElem?;intro q;have e1:(cells.toList.set (off+k) v).drop (off+(k+1)+r.length)=cells.toList.drop (off+k+(r.length+1)):=by
   rw[show off+(k+1)+r.length=off+k+(r.length+1) by omega];exact List.drop_set_of_lt (by omega)
  have e2:(cells.toList.set (off+k) v).take (off+(k+1))=cells.toList.take (off+k)++[v]:=by
   rw[show off+(k+1)=off+k+1 by omega,List.take_succ_eq_append_getElem (by simp;omega)];simp [List.take_set_of_le]
  rw[e1,e2];simp
theorem dA (place:Nat->Option (Nat × Nat)) (hs:CM B S m ρ a.eval) : ∀ (ps:List (Nat × Operand)) (dh:List (Nat × Nat × AP)) (cs dk:List AV) (vs:Array Value),RM place ps dh=true->CL B S m cs vs.toList ->
  fill cs (dh.map λ p=>(p.1,p.2.1,ρ p.2.2))=some dk -> ∃ aq,Instr.fill place vs (ps.map λ p=>(p.1,a.eval p.2))=some aq/\CL B S m dk aq.toList
 | [],[],cs,dk,vs,_,hc,hf=>by
  simp [fill]at hf;subst hf;exact ⟨vs,rfl,hc⟩
 | (i,x)::r,(off,n,y)::l,cs,dk,vs,hp,hc,hf=>by
  simp only[RM,Bool.and_eq_true,beq_iff_eq]at hp;obtain ⟨⟨Lr,Dn⟩,hp3⟩:=hp;simp only[List.map_cons,fill]at hf;cases hcell:cellsOf (ρ y) with
  | none=>simp [hcell]at hf
  | some us =>
   simp only[hcell]at hf;split at hf
   ·rename_i hn
    obtain ⟨hn1,Gd⟩:=hn;have fj:=XR (hs x y Dn) hcell;have o7:(a.eval x).cells.size=n:=by rw[<-hn1,fj.1];simp
    have Cg:off+(a.eval x).cells.size<=vs.size:=by rw[o7];have:=hc.1;simp at this;omega
    have uj:=dG off (a.eval x).cells.toList 0 vs (by simpa using Cg);have Gx:Instr.fill place vs (((i,x)::r).map λ p=>(p.1,a.eval p.2))=Instr.fill place ((a.eval x).cells.zipIdx.foldl (λ cs (c,j)=>cs.setIfInBounds (off+j) c) vs) (r.map λ p=>(p.1,a.eval p.2)):=by
     simp only[List.map_cons,Instr.fill,Lr];rw[if_neg (by simp;omega)]
    rw[Gx];refine dA place hs r l (splice cs off us) dk _ hp3 ?_ hf;have hz:((a.eval x).cells.zipIdx.foldl (λ cs (c,j)=>cs.setIfInBounds (off+j) c) vs).toList=vs.toList.take off++(a.eval x).cells.toList++vs.toList.drop (off+(a.eval x).cells.toList.length):=by
     rw[<-Array.foldl_toList];simpa using uj
    rw[hz];unfold splice;refine ⟨?_,λ j c v hj hv => ?_⟩
    ·have:=hc.1;have:=fj.1;simp at *;omega
    ·have mb:=hc.1
     have fr:=fj.1;simp only[Array.length_toList]at mb fr;rw[List.getElem?_append]at hj hv;simp only[List.length_append,List.length_take,Array.length_toList]at hj hv;rw[List.getElem?_append]at hj hv;simp only[List.length_take,Array.length_toList]at hj hv;have gq:min off cs.length=off:=by omega
     have dv:min off vs.size=off:=by omega
     rw[gq]at hj;rw[dv]at hv;rw[<-fr]at hv;split at hj
     ·rename_i h1
      rw[if_pos h1]at hv;split at hj
      ·rename_i h2
       rw[if_pos h2]at hv;rw[List.getElem?_take]at hj hv;rw[if_pos h2]at hj hv;exact hc.2 j c v hj hv
      ·rename_i h2
       rw[if_neg h2]at hv;exact fj.2 _ c v hj hv
     ·rename_i h1
      rw[if_neg h1]at hv;rw[List.getElem?_drop]at hj hv;exact hc.2 _ c v hj hv
   ·cases hf
 | [],_::_,_,_,_,hp,_,_=>by simp [RM]at hp
 | _::_,[],_,_,_,hp,_,_=>by simp [RM]at hp
theorem Uj (hm:BP B S w0 m) (hs:CM B S m ρ a.eval) {z:List AV} {dh:List (Nat × Nat × AP)} (h:BD P num o.op (.build z dh)=true) {cs:List AV} (hf:fill z (dh.map λ p=>(p.1,p.2.1,ρ p.2.2))=some cs) :
  CQ B S w0 P o a m (.val (.agg cs)):=by
 obtain ⟨t,ps,j9,h1,h2⟩:=AeX h;obtain ⟨i,v,hi,hz,he⟩:=iS h1;have key : ∃ aq,P.built t (ps.map λ p=>(p.1,a.eval p.2)).toList=some aq/\CL B S m cs aq.toList:=by
  unfold aV at h2;unfold Program.built;split at h2
  ·rename_i fs hu
   split at h2
   ·rename_i places hp
    obtain ⟨aq,h3,h4⟩:=dA _ hs ps.toList dh z cs v.cells h2 (SU he) hf;refine ⟨aq,?_,h4⟩;simp only[hi,hu,hz,hp,Array.toList_map];exact h3
   ·cases h2
  ·rename_i n e hu
   split at h2
   ·rename_i ie Lg
    obtain ⟨aq,h3,h4⟩:=dA _ hs ps.toList dh z cs v.cells h2 (SU he) hf;refine ⟨aq,?_,h4⟩;simp only[hi,hu,hz,Lg,Array.toList_map];exact h3
   ·cases h2
  ·cases h2
 obtain ⟨aq,h3,h4⟩:=key;refine EB hm (u := .agg aq) ?_ (.ca (by simpa using CA.agg cs aq.toList h4));simp only[execOp,j9,Sem.run_bind];rw[run_build m.w t _ aq h3];rfl
theorem pG (size:Nat) (hs:CM B S m ρ a.eval) : ∀ (ps:List (Nat × Operand)) (dh:List AP) (k:Nat) (es:List (List AV)) (vs:Array Value),Q3 k ps dh=true->dh.mapM (λ x=>cellsOf (ρ x))=some es->(∀ e∈es,e.length=size)->vs.size=(k+dh.length)*size ->
  ∃ aq,Instr.fill (λ i=>some (i*size,size)) vs (ps.map λ p=>(p.1,a.eval p.2))=some aq/\aq.size=vs.size/\(∀ q,q<k*size->aq[q]? = vs[q]?) /\ ∀ i cs,es[i]? = some cs -> ∀ j c,cs[j]? = some c -> ∃ u,aq[(k+i)*size+j]? = some u/\CC B S m c u
 | [],[],k,es,vs,_,iw,_,_=>by
  simp at iw;subst iw;exact ⟨vs,rfl,rfl,λ_ _=>rfl,λ i cs hi=>by simp at hi⟩
 | (i,x)::r,y::l,k,es,vs,he,iw,hz,hv=>by
  simp only[Q3,Bool.and_eq_true,beq_iff_eq]at he;obtain ⟨⟨rfl,h1⟩,h2⟩:=he;simp only[List.mapM_cons,Option.bind_eq_bind,Option.pure_def]at iw;cases hcell:cellsOf (ρ y) with
  | none=>simp [hcell]at iw
  | some us =>
   cases cr:l.mapM (λ x=>cellsOf (ρ x)) with
   | none=>simp [hcell,cr]at iw
   | some es' =>
    simp [hcell,cr]at iw;subst iw;have fj:=XR (hs x y h1) hcell;have Ql:us.length=size:=hz us (by simp);have o7:(a.eval x).cells.size=size:=by rw[<-Ql,fj.1];simp
    simp only[List.length_cons]at hv;have hle:i*size+size<=vs.size:=by rw[hv,show i+(l.length+1)=i+1+l.length by omega,Nat.add_mul,Nat.add_mul];omega
    have uj:=dG (i*size) (a.eval x).cells.toList 0 vs (by simp [o7];omega);generalize Hd:(a.eval x).cells.zipIdx.foldl (λ cs (c,j)=>cs.setIfInBounds (i*size+j) c) vs=Ea;have ij:Ea.toList=vs.toList.take (i*size)++(a.eval x).cells.toList++vs.toList.drop (i*size+size):=by
     rw[<-Hd,<-Array.foldl_toList];simpa [o7] using uj
    have mf:Ea.size=vs.size:=by
     have:=congrArg List.length ij
     simp [o7]at this;omega
    obtain ⟨aq,h3,h4,h5,h6⟩:=pG size hs r l (i+1) es' Ea h2 cr (λ e he=>hz e (by simp [he])) (by rw[mf,hv];congr 1;omega);refine ⟨aq,?_,h4.trans mf,λ q hq => ?_,λ i' cs m8 j c hj => ?_⟩
    ·simp only[List.map_cons,Instr.fill]
     rw[if_neg (by simp [o7];omega),Hd];exact h3
    ·rw[h5 q (by rw[Nat.add_mul];omega)]
     have:Ea.toList[q]? = vs.toList[q]? := by
      rw[ij,List.append_assoc,List.getElem?_append_left (by simp;omega),List.getElem?_take,if_pos hq]
     simpa using this
    ·cases i' with
     | zero =>
      obtain rfl:us=cs:=by simpa using m8
      obtain ⟨u,hu,u7⟩:=SM fj hj;have db:j<size:=by rw[<-Ql];exact (zS hj).1
      refine ⟨u,?_,u7⟩;rw[Nat.add_zero,h5 _ (by rw[Nat.add_mul];omega)];have:Ea.toList[i*size+j]? = some u:=by
       rw[ij,List.append_assoc,List.getElem?_append_right (by simp;omega)];simp only[List.length_take,Array.length_toList,show min (i*size) vs.size=i*size by omega,show i*size+j-i*size=j by omega];rw[List.getElem?_append_left (by simp [o7];omega)];exact hu
      simpa using this
     | succ i' =>
      obtain ⟨u,hu,u7⟩:=h6 i' cs (by simpa using m8) j c hj;exact ⟨u,by rw[show i+(i'+1)=i+1+i' by omega];exact hu,u7⟩
 | [],_::_,_,_,_,he,_,_,_=>by simp [Q3]at he
 | _::_,[],_,_,_,he,_,_,_=>by simp [Q3]at he
theorem fD {s z n cap:Nat} {es:List (List AV)} {w':World} {g:Nat} {arr:Array Value} {e:TypeId} (hz:0<z) (hn:n<=cap) (hg:w'.heap[g]? = some (.cells arr e (0,0))) (hc:cap*z<=arr.size) :
  CV B S ⟨e9 m s (some g),m.own.put s ((m.own s).new ⟨z,es⟩),w'⟩ (.row s (m.own.e8 s) z 0 n) (.slice (some ⟨g,0,none⟩) n cap):=by
 refine .ca (.one (.row s (m.own.e8 s) z 0 n _ cap ?_ hz hn (λ_=>rfl) λ b' j7=>⟨?_,.inr ⟨g,arr,e,?_,by simp,hg,by simpa using hc⟩⟩))
 ·show _<AH.e8 _ s
  rw[KN];simp
 ·change AH.get _ s _=some b' at j7
  rw[FS,if_pos ⟨rfl,rfl⟩]at j7;obtain rfl:(⟨z,es⟩:DR)=b':=by simpa using j7
  rfl
 ·simp [e9]
theorem mK (hm:BP B S w0 m) (s z n cap:Nat) (es:List (List AV)) (vs:Array Value) (e:TypeId) (cj:0<z) (hn:n<=cap) (o7:cap*z<=vs.size) (hz : ∀ x∈es,x.length=z)
  (hc : ∀ i cs,es[i]? = some cs -> ∀ j c,cs[j]? = some c -> ∃ u,vs[i*z+j]? = some u/\CC B S m c u)
  (h:(execOp a.eval o).run P m.w = .ok (.value (.slice (some ⟨m.w.heap.size,0,none⟩) n cap)) (m.w.alloc (.cells vs e))) :
  CQ B S w0 P o a m (.new s ⟨z,es⟩ (λ t => .row s t z 0 n)):=by
 intro K Q hK;obtain ⟨h1,h2⟩:=W7 hm s ⟨z,es⟩ vs e hz hc;exact OI h (hK _ ⟨e9 m s (some m.w.heap.size),m.own.put s ((m.own s).new ⟨z,es⟩),m.w.alloc (.cells vs e)⟩ rfl h1 h2 (fD cj hn (heap_alloc_new _ _) o7))
theorem Ui (hm:BP B S w0 m) (hs:CM B S m ρ a.eval) {s a6:Nat} {dh:List AP} (h:BD P num o.op (.b9 s a6 dh)=true) {es:List (List AV)} (iw:dh.mapM (λ x=>cellsOf (ρ x))=some es) (hz : ∀ e∈es,e.length=a6) :
  CQ B S w0 P o a m (.new s ⟨a6,es⟩ (λ t => .row s t a6 0 es.length)):=by
 obtain ⟨t,n,ps,e,i,j9,hu,hi,o7,h0,hn,Ml,dm,hzero⟩:=AeW h;have hlen:es.length=n:=by
  rw[hn];clear h dm hzero hn;induction dh generalizing es with
  | nil=>simp at iw;subst iw;rfl
  | cons y l ih =>
   simp only[List.mapM_cons,Option.bind_eq_bind,Option.pure_def]at iw;cases hcell:cellsOf (ρ y) with
   | none=>simp [hcell]at iw
   | some us =>
    cases cr:l.mapM (λ x=>cellsOf (ρ x)) with
    | none=>simp [hcell,cr]at iw
    | some es' =>
     simp [hcell,cr]at iw;subst iw;simp [ih cr (λ e he=>hz e (by simp [he]))]
 obtain ⟨zc,Ah⟩ : ∃ zc:Array Value,(n*a6=0/\zc = #[])\/(¬ n*a6=0 /\ ∃ z,i.zero=some z/\zc=z.cells):=by
  by_cases k8:n*a6=0
  ·exact ⟨#[],.inl ⟨k8,rfl⟩⟩
  ·rcases hzero with yq|⟨z,ij,nu⟩
   ·simp [yq]at k8
   ·exact ⟨z.cells,.inr ⟨k8,z,ij,rfl⟩⟩
 have Hh:((Array.range (n*a6)).map (zc[· % zc.size]!)).size=n*a6:=by simp
 obtain ⟨aq,h3,h4,_,h6⟩:=pG a6 hs ps.toList dh 0 es _ dm iw hz (by rw[Hh,hn];simp);have n7:(execOp a.eval o).run P m.w = .ok (.value (.slice (some ⟨m.w.heap.size,0,none⟩) n n)) (m.w.alloc (.cells aq e)):=by
  simp only[execOp,j9,Instr.buildSlice,Sem.run_bind,run_underlying hu,Result.andThen_ok,sizeOf,typeInfo,run_program,hi,Sem.run_pure,o7];simp only[show ¬ (n*a6>2^24) from by omega,if_false,Sem.run_bind,Sem.run_pure,Result.andThen_ok];rcases Ah with ⟨yq,rfl⟩|⟨yq,z,ij,rfl⟩
  ·simp only[yq,if_true,Sem.run_bind,Sem.run_pure,Result.andThen_ok,Array.toList_map]
   rw[yq]at h3;rw[h3];rfl
  ·simp only[yq,if_false,Sem.run_bind,Sem.run_pure,Result.andThen_ok,Array.toList_map,zeroValue,typeInfo,run_program,hi,ij]
   rw[h3];rfl
 rw[hlen];exact mK hm s a6 n n es aq e (Nat.pos_of_ne_zero h0) (Nat.le_refl _) (by rw[h4,Hh];exact Nat.le_refl _) hz (λ i cs m8 j c hj=>by simpa using h6 i cs m8 j c hj) n7
end
end Go.b8

namespace Go.b8
open Go.RowKit
section
variable {B:Nat} {S:Nat->Prop} {w0:World} {m:M}
variable {P:Program} {num:Nat->Nat} {o:Oper} {a:Act} {ρ:AP->AV}
theorem XQ {x:AV} {v:Value} (h:CV B S m x v) (h1:x ≠ .any) (h2 : ∀ cs,x ≠ .agg cs) (h3 : ∀ cs,x ≠ .e6 cs) (h4 : ∀ p f g cs,x ≠ .fn p f g cs:=by intros;simp):CC B S m x v:=by
 cases h with
 | any=>exact absurd rfl h1
 | e6 as=>exact absurd rfl (h3 as)
 | ca h=>cases h with
  | one h=>exact h
  | agg cs=>exact absurd rfl (h2 cs)
  | fn p f g cs=>exact absurd rfl (h4 p f g cs)
  | ub f g cs=>exact absurd rfl (h4 true f g cs)
theorem SN {s t i j:Nat} {v:Value} (h:CV B S m (.ptr s t i j) v) : ∃ ad,v = .pointer (some ad)/\t<m.own.e8 s /\ ∀ b,m.own.get s t=some b -> ∃ g,m.ν s t=some g/\ad=⟨g,i*b.a6+j,none⟩:=by
 cases XQ h (by simp) (by simp) (by simp) with
 | rd h=>cases h
 | ptr s t i j ad ht h'=>exact ⟨ad,rfl,ht,h'⟩
theorem bF {cs:List AV} {v:Value} (h:CV B S m (.o5 cs) v) : ∃ (b o:Nat) (u:Nat->Value) (l:Bool),v = .pointer (some ⟨b,o,none⟩)/\(cs≠[]->safe B S m l b)/\(∀ j c,cs[j]? = some c->m.w.cell? ⟨b,o+j,none⟩=some (u j))/\(∀ j c,cs[j]? = some c->Rd m.w (safe B S m) c (u j)):=by
 cases XQ h (by simp) (by simp) (by simp) with
 | rd h=>cases h
 | o5 _ b o u l h1 h2 h3=>exact ⟨b,o,u,l,rfl,h1,h2,h3⟩
theorem SP {s t z off len:Nat} {v:Value} (h:CV B S m (.row s t z off len) v) : ∃ (ad:Option Addr) (cap:Nat),v = .slice ad len cap/\t<m.own.e8 s/\0<z/\len<=cap/\(0<len->ad.isSome=true) /\
  ∀ b,m.own.get s t=some b->b.a6=z/\((len=0/\cap=0) \/ ∃ g arr e,m.ν s t=some g/\ad=some ⟨g,off*z,none⟩/\m.w.heap[g]? = some (.cells arr e (0,0))/\(off+cap)*z<=arr.size):=by
 cases XQ h (by simp) (by simp) (by simp) with
 | rd h=>cases h
 | row s t z off len ad cap ht cj oe ha h'=>exact ⟨ad,cap,rfl,ht,cj,oe,ha,h'⟩
theorem XT {l:Bool} {es:List (List AV)} {v:Value} (h:CV B S m (.sl l es) v):Rd m.w (safe B S m) (.sl l es) v:=by
 cases XQ h (by simp) (by simp) (by simp) with
 | rd h=>exact h
theorem Yu (hm:BP B S w0 m) (hs:CM B S m ρ a.eval) {x':AP} (h:BD P num o.op (.mn x')=true) {s t i j:Nat} (hx:ρ x' = .ptr s t i j):CQ B S w0 P o a m (.val (.ptr s t i j)):=by
 obtain ⟨x,j9,h1⟩:=Afb h;have hc:=hx ▸ hs x x' h1;obtain ⟨ad,hv,_,_⟩:=SN hc;refine EB hm (u := .pointer (some ad)) ?_ (hv ▸ hc);simp [execOp,j9,hv]
theorem Yg (hm:BP B S w0 m) (hs:CM B S m ρ a.eval) {x':AP} {off:Nat} (h:BD P num o.op (.u6 x' off)=true) {s t i j:Nat} (hx:ρ x' = .ptr s t i j):CQ B S w0 P o a m (.val (.ptr s t i (j+off))):=by
 obtain ⟨ty,x,f,fs,fd,inf,j9,h1,hu,hf,ho,hi,o7⟩:=qI h;obtain ⟨ad,hv,ht,hb⟩:=SN (hx ▸ hs x x' h1);refine EB hm (u := .pointer (some (ad.add off))) ?_ (.ca (.one (.ptr s t i (j+off) _ ht λ b j7 => ?_)))
 ·simp [execOp,j9,hv,Instr.fieldAt,run_underlying hu,hf,Instr.sureAddr,fieldPlace,sizeOf,typeInfo,hi,o7,ho]
 ·obtain ⟨g,hg,rfl⟩:=hb b j7
  exact ⟨g,hg,by rw[G0];simp;omega⟩
theorem Acc (hm:BP B S w0 m) (hs:CM B S m ρ a.eval) {x':AP} {off:Nat} (h:BD P num o.op (.u6 x' off)=true) {cs:List AV} (hx:ρ x' = .o5 cs):CQ B S w0 P o a m (.val (.o5 (cs.drop off))):=by
 obtain ⟨ty,x,f,fs,fd,inf,j9,h1,hu,hf,ho,hi,o7⟩:=qI h;obtain ⟨b,ob,u,l,hv,hR,hc,hr⟩:=bF (hx ▸ hs x x' h1);refine EB hm (u := .pointer (some ⟨b,ob+off,none⟩)) ?_ (.ca (.one (.o5 _ b (ob+off) (λ j=>u (off+j)) l (λ k8=>hR (λ e=>k8 (by simp [e]))) (λ j c hj => ?_) (λ j c hj => ?_))))
 ·simp [execOp,j9,hv,Instr.fieldAt,run_underlying hu,hf,Instr.sureAddr,fieldPlace,sizeOf,typeInfo,hi,o7,ho,G0]
 ·rw[List.getElem?_drop]at hj
  rw[Nat.add_assoc];exact hc _ c hj
 ·rw[List.getElem?_drop]at hj
  exact hr _ c hj
theorem Y1 {agg:Bool} {cs:List AV} {v:AV} (h:II agg cs=some v) {vs:List Value} (hc:CL B S m cs vs):CV B S m v (if agg then .agg vs.toArray else vs.getD 0 undef)/\(agg=false->vs.length=1):=by
 unfold II at h;cases agg with
 | true =>
  obtain rfl:AV.agg cs=v:=by simpa using h
  exact ⟨.ca (.agg cs vs hc),by simp⟩
 | false =>
  simp only[Bool.false_eq_true,if_false]at h;split at h
  ·rename_i c
   obtain rfl:c=v:=by simpa using h
   obtain ⟨u,hu,u7⟩:=SM hc (j:=0) (c:=c) rfl;refine ⟨?_,λ_=>by rw[<-hc.1];rfl⟩;simp only[Bool.false_eq_true,if_false,List.getD,hu,Option.getD_some];exact .ca (.one u7)
  ·cases h
theorem AgM (t:TypeId) (agg:Bool) (inf:TypeInfo) (il : ∀ w,(isAgg t).run P w = .ok agg w) (hi:P.info? t=some inf) (vs:List Value) (off n:Nat) (hn:inf.size=n) (hle:off+n<=vs.length) (h1:agg=false->n=1) (w:World) :
  (Go.part t vs.toArray off).run P w = .ok (if agg then .agg ((vs.drop off).take n).toArray else ((vs.drop off).take n).getD 0 undef) w:=by
 unfold Go.part;rw[Sem.run_bind,il w];cases agg with
 | true=>simp [sizeOf,typeInfo,hi,hn,List.extract_eq_take_drop]
 | false =>
  have g9:off<vs.length:=by have:=h1 rfl;omega
  simp [g9,h1 rfl]
theorem Yh (hm:BP B S w0 m) (hs:CM B S m ρ a.eval) {x':AP} {off n:Nat} {agg:Bool} (h:BD P num o.op (.oz x' off n agg)=true) {cs ds:List AV} {v:AV} (hx:ρ x' = .agg cs) (hp:part cs off n=some ds) (hv:II agg ds=some v) :
  CQ B S w0 P o a m (.val v):=by
 obtain ⟨ty,x,f,fs,fd,inf,j9,h1,hu,hf,ho,hi,o7,il,h0⟩:=Ae5 h;obtain ⟨vs,w4,m5⟩:=Wo (hx ▸ hs x x' h1);unfold b8.part at hp;split at hp
 ·rename_i hle
  obtain rfl:(cs.drop off).take n=ds:=by simpa using hp
  obtain ⟨s9,gu⟩:=Y1 hv (Vw m5 off n);have hl:=m5.1;have xa:agg=false->n=1:=λ e=>by have:=gu e;simp at this;omega
  refine EB hm ?_ s9;simp only[execOp,j9,Sem.run_bind,Instr.field,run_underlying hu,Result.andThen_ok,hf,w4,asAgg,Sem.run_pure,ho];rw[AgM fd.type agg inf il hi vs off n o7 (by omega) xa];rfl
 ·cases hp
theorem Yi (hm:BP B S w0 m) (hs:CM B S m ρ a.eval) {len a6:Nat} {x' i':AP} (h:BD P num o.op (.q7 (some len) a6 x' i')=true) {k:IntKind} {n:Int} {s t i0 j:Nat} (m8:ρ i' = .int k n) (hx:ρ x' = .ptr s t i0 j) (h0:0<=n) (hn:n<len) :
  CQ B S w0 P o a m (.val (.ptr s t i0 (j+n.toNat*a6))):=by
 obtain ⟨ty,x,i,e,inf,j9,h1,h2,hi,o7,bn⟩:=YI h;rcases bn with ⟨tc,hl,hu,g9⟩|⟨hl,_⟩
 ·obtain rfl:len=tc:=by simpa using hl
  obtain ⟨ad,hv,ht,hb⟩:=SN (hx ▸ hs x x' h1);have wh:=HE (m8 ▸ hs i i' h2);refine EB hm (u := .pointer (some (ad.add (n.toNat*a6)))) ?_ (.ca (.one (.ptr s t i0 (j+n.toNat*a6) _ ht λ b j7 => ?_)))
  ·simp [execOp,j9,hv,wh,Instr.indexAt,asIntOf,run_underlying hu,Instr.sureAddr,sizeOf,typeInfo,hi,o7,h0,hn]
  ·obtain ⟨g,hg,rfl⟩:=hb b j7
   exact ⟨g,hg,by rw[G0];simp;omega⟩
 ·cases hl
theorem Yj (hm:BP B S w0 m) (hs:CM B S m ρ a.eval) {len a6:Nat} {x' i':AP} (h:BD P num o.op (.q7 (some len) a6 x' i')=true) {k:IntKind} {n:Int} {cs:List AV} (m8:ρ i' = .int k n) (hx:ρ x' = .o5 cs) (h0:0<=n) (hn:n<len) :
  CQ B S w0 P o a m (.val (.o5 (cs.drop (n.toNat*a6)))):=by
 obtain ⟨ty,x,i,e,inf,j9,h1,h2,hi,o7,bn⟩:=YI h;rcases bn with ⟨tc,hl,hu,g9⟩|⟨hl,_⟩
 ·obtain rfl:len=tc:=by simpa using hl
  obtain ⟨b,ob,u,l,hv,hR,hc,hr⟩:=bF (hx ▸ hs x x' h1);have wh:=HE (m8 ▸ hs i i' h2);refine EB hm (u := .pointer (some ⟨b,ob+n.toNat*a6,none⟩)) ?_ (.ca (.one (.o5 _ b (ob+n.toNat*a6) (λ j=>u (n.toNat*a6+j)) l (λ k8=>hR (λ e=>k8 (by simp [e]))) (λ j c hj => ?_) (λ j c hj => ?_))))
  ·simp [execOp,j9,hv,wh,Instr.indexAt,asIntOf,run_underlying hu,Instr.sureAddr,sizeOf,typeInfo,hi,o7,h0,hn,G0]
  ·rw[List.getElem?_drop]at hj
   rw[Nat.add_assoc];exact hc _ c hj
  ·rw[List.getElem?_drop]at hj
   exact hr _ c hj
 ·cases hl
theorem uH (ty e:TypeId) (inf:TypeInfo) (hu:P.underlying ty=some (.slice e)) (hi:P.info? e=some inf) (ad:Addr) (len cap:Nat) (k:IntKind) (n:Int) (h0:0<=n) (hn:n<len) (w:World) :
  (Instr.indexAt ty (.slice (some ad) len cap) (.int k n)).run P w = .ok (.pointer (some (ad.add (n.toNat*inf.size)))) w:=by
 simp [Instr.indexAt,asIntOf,run_underlying hu,sizeOf,typeInfo,hi,h0,hn]
theorem Yk (hm:BP B S w0 m) (hs:CM B S m ρ a.eval) {a6:Nat} {x' i':AP} (h:BD P num o.op (.q7 none a6 x' i')=true) {k:IntKind} {n:Int} {s t z off len:Nat} (m8:ρ i' = .int k n) (hx:ρ x' = .row s t z off len) (h0:0<=n) (hn:n<len) (hz:z=a6) :
  CQ B S w0 P o a m (.val (.ptr s t (off+n.toNat) 0)):=by
 obtain ⟨ty,x,i,e,inf,j9,h1,h2,hi,o7,bn⟩:=YI h;rcases bn with ⟨_,hl,_⟩|⟨_,hu,_⟩
 ·cases hl
 ·obtain ⟨ad,cap,hv,ht,cj,oe,ha,hb⟩:=SP (hx ▸ hs x x' h1)
  have wh:=HE (m8 ▸ hs i i' h2);obtain ⟨Cx,rfl⟩:=Option.isSome_iff_exists.1 (ha (by omega));refine EB hm (u := .pointer (some (Cx.add (n.toNat*a6)))) ?_ (.ca (.one (.ptr s t (off+n.toNat) 0 _ ht λ b j7 => ?_)))
  ·simp only[execOp,j9,hv,wh,Sem.run_bind]
   rw[uH ty e inf hu hi Cx len cap k n h0 hn,o7];rfl
  ·obtain ⟨qm,bn⟩:=hb b j7
   rcases bn with ⟨gk,_⟩|⟨g,arr,e',hg,kr,_,_⟩
   ·omega
   ·obtain rfl:Cx=⟨g,off*z,none⟩:=by simpa using kr
    exact ⟨g,hg,by rw[G0,qm,<-hz,Nat.add_mul];rfl⟩
theorem Yl (hm:BP B S w0 m) (hs:CM B S m ρ a.eval) {a6:Nat} {x' i':AP} (h:BD P num o.op (.q7 none a6 x' i')=true) {k:IntKind} {n:Int} {l:Bool} {es:List (List AV)} {cs:List AV} (m8:ρ i' = .int k n) (hx:ρ x' = .sl l es) (h0:0<=n) (hn:es[n.toNat]? = some cs) (hz:cs.length=a6) :
  CQ B S w0 P o a m (.val (.o5 cs)):=by
 obtain ⟨ty,x,i,e,inf,j9,h1,h2,hi,o7,bn⟩:=YI h;rcases bn with ⟨_,hl,_⟩|⟨_,hu,_⟩
 ·cases hl
 ·have iy:=XT (hx ▸ hs x x' h1)
  have wh:=HE (m8 ▸ hs i i' h2);have g9:n.toNat<es.length:=(zS hn).1;generalize w4:a.eval x=v at iy;cases iy with
  | jb=>simp at g9
  | sl _ _ b ob q5 cap u k8 hp hR x9 gd hc hr =>
   have Hg:q5=a6:=by
    rw[<-hz];exact (gd cs (zM hn)).symm
   subst Hg;refine EB hm (u := .pointer (some ⟨b,ob+n.toNat*q5,none⟩)) ?_ (.ca (.one (.o5 _ b (ob+n.toNat*q5) (u n.toNat) l (λ_=>hR) (λ j c hj => ?_) (λ j c hj=>hr _ cs hn j c hj))))
   ·simp only[execOp,j9,w4,wh,Sem.run_bind]
    rw[uH ty e inf hu hi ⟨b,ob,none⟩ es.length cap k n h0 (by omega),o7,G0];rfl
   ·rw[Nat.add_assoc]
    exact hc _ cs hn j c hj
end
end Go.b8

namespace Go.b8
open Go.RowKit
section
variable {B:Nat} {S:Nat->Prop} {w0:World} {m:M}
variable {P:Program} {num:Nat->Nat} {o:Oper} {a:Act} {ρ:AP->AV}
theorem gJ (t:TypeId) (agg:Bool) (n:Nat) (il : ∀ w,(isAgg t).run P w = .ok agg w) (hn:if agg then ∃ i,P.info? t=some i/\i.size=n else n=1) (ad:Addr) (vs:List Value) (hl:vs.length=n) (w:World)
  (hc : ∀ q v,vs[q]? = some v->w.cell? (ad.add q)=some v):(Instr.loadAt t (.pointer (some ad))).run P w = .ok (if agg then .agg vs.toArray else vs.getD 0 undef) w:=by
 unfold Instr.loadAt loadVar;simp only[Instr.sureAddr,Sem.run_bind,Sem.run_pure,Result.andThen_ok,il w];cases agg with
 | true =>
  simp only[if_true]at hn;obtain ⟨i,hi,hs⟩:=hn;have:=run_loadCells_list (P:=P) w ad vs hc
  simp [sizeOf,typeInfo,hi,hs,<-hl,this]
 | false =>
  simp only[Bool.false_eq_true,if_false]at hn ⊢;have g9:0<vs.length:=by omega
  have h0:=hc 0 vs[0] (zE g9);have yq:w.cell? ad=some vs[0]:=by simpa [Addr.add] using h0
  simp [load,Sem.run,yq,g9]
theorem tG (hm:BP B S w0 m) {s t i j n:Nat} {cs:List AV} (h:m.own.nv s t i j n=some cs) : ∃ b g arr e,m.own.get s t=some b/\(0<n->m.ν s t=some g/\m.w.heap[g]? = some (.cells arr e (0,0))) /\
  ∃ vs:List Value,vs.length=n/\CL B S m cs vs /\ ∀ q v,vs[q]? = some v->arr[i*b.a6+j+q]? = some v:=by
 unfold AH.nv at h;cases hb:m.own.get s t with
 | none=>simp [hb]at h
 | some b =>
  simp only[hb]at h;cases he:b.es[i]? with
  | none=>simp [he]at h
  | some ds =>
   simp only[he,part]at h;split at h
   ·rename_i hle
    obtain rfl:(ds.drop j).take n=cs:=by simpa using h
    obtain ⟨hz,bd⟩:=hm.c7 s t b hb;cases hν:m.ν s t with
    | none =>
     rw[hν]at bd;rw[bd]at he;simp at he
    | some g =>
     rw[hν]at bd;obtain ⟨hB,arr,e,hh,u7⟩:=bd;have o7 : ∀ q,q<n -> ∃ u,arr[i*b.a6+j+q]? = some u:=λ q hq=>by
      have g9:j+q<ds.length:=by omega
      obtain ⟨u,hu,_⟩:=u7 i ds he (j+q) ds[j+q] (zE g9);exact ⟨u,by rw[<-hu];congr 1;omega⟩
     refine ⟨b,g,arr,e,rfl,λ_=>⟨rfl,hh⟩,(arr.toList.drop (i*b.a6+j)).take n,?_,⟨?_,?_⟩,?_⟩
     ·rw[List.length_take,List.length_drop]
      rcases Nat.eq_zero_or_pos n with h0|h0
      ·omega
      ·obtain ⟨u,hu⟩:=o7 (n-1) (by omega)
       have:=(Array.getElem?_eq_some_iff.1 hu).1
       simp;omega
     ·rw[List.length_take,List.length_take,List.length_drop,List.length_drop]
      rcases Nat.eq_zero_or_pos n with h0|h0
      ·omega
      ·obtain ⟨u,hu⟩:=o7 (n-1) (by omega)
       have:=(Array.getElem?_eq_some_iff.1 hu).1
       simp;omega
     ·intro q c v hq hv
      rw[List.getElem?_take]at hq hv;split at hq
      ·rename_i Gn
       rw[if_pos Gn]at hv;rw[List.getElem?_drop]at hq hv;obtain ⟨u,hu,hc⟩:=u7 i ds he (j+q) c hq;have:some u=some v:=by
        rw[<-hu,<-hv];simp only[Array.getElem?_toList];congr 1;omega
       obtain rfl:u=v:=by simpa using this
       exact hc
      ·cases hq
     ·intro q v hv
      rw[List.getElem?_take]at hv;split at hv
      ·rw[List.getElem?_drop]at hv
       simpa using hv
      ·cases hv
   ·cases h
theorem XG {w:World} {g p:Nat} {arr:Array Value} {e:TypeId} (h:w.heap[g]? = some (.cells arr e (0,0))):w.cell? ⟨g,p,none⟩=arr[p]? := by
 simp [World.cell?,h]
theorem Yn (hm:BP B S w0 m) (hs:CM B S m ρ a.eval) {agg:Bool} {n:Nat} {x':AP} (h:BD P num o.op (.ld agg n x')=true) {s t i j:Nat} {cs:List AV} {v:AV} (hx:ρ x' = .ptr s t i j) (hl:m.own.nv s t i j n=some cs) (hv:II agg cs=some v) :
  CQ B S w0 P o a m (.val v):=by
 obtain ⟨ty,x,j9,h1,il,hn⟩:=qJ h;obtain ⟨ad,w4,ht,hb⟩:=SN (hx ▸ hs x x' h1);obtain ⟨b,g,arr,e,l9,hg,vs,mh,m5,gm⟩:=tG hm hl;obtain ⟨s9,_⟩:=Y1 hv m5;refine EB hm ?_ s9;simp only[execOp,j9,Sem.run_bind,w4];rw[gJ ty agg n il hn ad vs mh m.w (λ q u hq => ?_)]
 ·rfl
 ·have g9:q<vs.length:=(zS hq).1
  obtain ⟨Bu,jz⟩:=hg (by omega);obtain ⟨g',du,rfl⟩:=hb b l9;obtain rfl:g=g':=by rw[Bu]at du;simpa using du
  rw[G0,XG jz];exact gm q u hq
theorem Ym (hm:BP B S w0 m) (hs:CM B S m ρ a.eval) {agg:Bool} {n:Nat} {x':AP} (h:BD P num o.op (.ld agg n x')=true) {cs ds:List AV} {v:AV} (hx:ρ x' = .o5 cs) (hl:part cs 0 n=some ds) (hv:II agg ds=some v) :
  CQ B S w0 P o a m (.val v):=by
 obtain ⟨ty,x,j9,h1,il,hn⟩:=qJ h;obtain ⟨b,ob,u,l,w4,hR,hc,hr⟩:=bF (hx ▸ hs x x' h1);unfold b8.part at hl;split at hl
 ·rename_i hle
  obtain rfl:(cs.drop 0).take n=ds:=by simpa using hl
  have m5:CL B S m ((cs.drop 0).take n) ((List.range n).map u):=by
   refine ⟨by simp;omega,λ q c v' hq mg => ?_⟩;simp only[List.drop_zero,List.getElem?_take]at hq;split at hq
   ·rename_i Gn
    simp [Gn]at mg;subst mg;exact .rd (hr q c hq)
   ·cases hq
  obtain ⟨s9,_⟩:=Y1 hv m5;refine EB hm ?_ s9;simp only[execOp,j9,Sem.run_bind,w4];rw[gJ ty agg n il hn ⟨b,ob,none⟩ ((List.range n).map u) (by simp) m.w (λ q w' hq => ?_)]
  ·rfl
  ·have Gn:q<n:=by have:=(zS hq).1;simpa using this
   simp [Gn]at hq;subst hq;rw[G0];exact hc q cs[q] (zE (by omega))
 ·cases hl
theorem gZ {α:Type} (l:List α) (off:Nat) (vs:List α) (h:off+vs.length<=l.length) (q:Nat):(l.take off++vs++l.drop (off+vs.length))[q]? = if q<off then l[q]? else if q<off+vs.length then vs[q-off]? else l[q]? := by
 rw[List.append_assoc];by_cases h1:q<off
 ·rw[if_pos h1,List.getElem?_append_left (by simp;omega),List.getElem?_take,if_pos h1]
 ·rw[if_neg h1,List.getElem?_append_right (by simp;omega)]
  have e1:(l.take off).length=off:=by simp;omega
  rw[e1];by_cases h2:q<off+vs.length
  ·rw[if_pos h2,List.getElem?_append_left (by omega)]
  ·rw[if_neg h2,List.getElem?_append_right (by omega),List.getElem?_drop]
   congr 1;omega
theorem kJ (hm:BP B S w0 m) {g:Nat} (hB:B<=g) (arr:Array Value):Below B w0 (m.w.setRow g arr) :=
 hm.below.trans ⟨rfl,rfl,rfl,by simp,λ k hk=>setRow_other _ _ _ _ (by omega)⟩
theorem mL (hm:BP B S w0 m) (hs:CM B S m ρ a.eval) {n:Nat} {x' v':AP} (h:BD P num o.op (.st n x' v')=true) {s t i j:Nat} {vs:List AV} {k6:AH} (hx:ρ x' = .ptr s t i j) (hv:cellsOf (ρ v')=some vs) (hn:vs.length=n) (g8:m.own.ko s t i j vs=some k6) :
  CQ B S w0 P o a m (.ct (.e6 []) k6):=by
 obtain ⟨ty,x,v,inf,j9,h1,h2,hi,o7⟩:=Afe h;obtain ⟨ad,w4,ht,hb⟩:=SN (hx ▸ hs x x' h1);have m5:=XR (hs v v' h2) hv;unfold AH.ko at g8;cases l9:m.own.get s t with
 | none=>simp [l9]at g8
 | some b =>
  simp only[l9]at g8;cases he:b.es[i]? with
  | none=>simp [he]at g8
  | some cs =>
   simp only[he]at g8;split at g8
   ·rename_i hle
    obtain rfl:=Option.some.inj g8;obtain ⟨hz,bd⟩:=hm.c7 s t b l9;obtain ⟨g,hg,rfl⟩:=hb b l9;rw[hg]at bd;obtain ⟨hB,arr,e,hh,u7⟩:=bd;have Kt:cs.length=b.a6:=hz cs (zM he);have hlen:(a.eval v).cells.toList.length=vs.length:=m5.1.symm;have w5:i<b.es.length:=(zS he).1;have Cg:i*b.a6+j+vs.length<=arr.size:=by
     rcases Nat.eq_zero_or_pos vs.length with h0|h0
     ·rcases Nat.eq_zero_or_pos j with Ia|Ia
      ·rw[h0,Ia]
       rcases Nat.eq_zero_or_pos i with uo|uo
       ·rw[uo];omega
       ·rcases Nat.eq_zero_or_pos b.a6 with cj|cj
        ·rw[cj];omega
        ·have Po:i-1<b.es.length:=by omega
         have mb:(b.es[i-1]).length=b.a6:=hz _ (List.getElem_mem Po);obtain ⟨u,hu,_⟩:=u7 (i-1) _ (zE Po) (b.a6-1) _ (zE (by omega));have:=(Array.getElem?_eq_some_iff.1 hu).1
         have e1:(i-1)*b.a6+b.a6=i*b.a6:=by
          rw[<-Nat.succ_mul];congr 1;omega
         omega
      ·obtain ⟨u,hu,_⟩:=u7 i cs he (j-1) cs[j-1] (zE (by omega))
       have:=(Array.getElem?_eq_some_iff.1 hu).1
       omega
     ·obtain ⟨u,hu,_⟩:=u7 i cs he (j+vs.length-1) cs[j+vs.length-1] (zE (by omega))
      have:=(Array.getElem?_eq_some_iff.1 hu).1
      omega
    have gu:=Vv m5;have vi:=run_storeCells_at (P:=P) g (i*b.a6+j) e (a.eval v).cells.toList 0 arr m.w hh (by rw[hlen];omega) gu;generalize nc:(arr.toList.take (i*b.a6+j+0)++(a.eval v).cells.toList++arr.toList.drop (i*b.a6+j+0+(a.eval v).cells.toList.length)).toArray=o9 at vi;have zi : ∀ p,o9[p]? = if p<i*b.a6+j then arr[p]? else if p<i*b.a6+j+vs.length then (a.eval v).cells.toList[p-(i*b.a6+j)]? else arr[p]? := λ p=>by
     rw[<-nc];simp only[Nat.add_zero,List.getElem?_toArray];rw[gZ _ _ _ (by rw[hlen];simpa using Cg),hlen];simp only[Array.getElem?_toList]
    have pn:o9.size=arr.size:=by
     rw[<-nc];simp [hlen];have:=hlen
     simp at this;omega
    obtain ⟨k1,k2⟩:=AhD hm s t b ⟨b.a6,b.es.set i (splice cs j vs)⟩ l9 g hg arr o9 e hh rfl (λ y hy=>by
      rcases List.mem_or_eq_of_mem_set hy with hy|hy
      ·exact hz y hy
      ·rw[hy,<-Kt];simp [splice];omega) pn
     (λ i' dk m8 q c hq=>by
      show ∃ u,o9[i'*b.a6+q]? = some u/\_;change (b.es.set i (splice cs j vs))[i']? = some dk at m8;by_cases Pp:i'=i
      ·subst Pp
       rw[List.getElem?_set_self w5]at m8;obtain rfl:splice cs j vs=dk:=by simpa using m8
       unfold splice at hq;rw[gZ _ _ _ hle]at hq;rw[zi];by_cases xx:q<j
       ·rw[if_pos xx]at hq
        rw[if_pos (by omega)];exact u7 i' cs he q c hq
       ·rw[if_neg xx]at hq
        rw[if_neg (by omega)];by_cases wk:q<j+vs.length
        ·rw[if_pos wk]at hq
         rw[if_pos (by omega)];obtain ⟨u,hu,fj⟩:=SM m5 hq;exact ⟨u,by rw[<-hu];congr 1;omega,fj⟩
        ·rw[if_neg wk]at hq
         rw[if_neg (by omega)];exact u7 i' cs he q c hq
      ·rw[List.getElem?_set_ne (by omega)]at m8
       have Dp:q<b.a6:=by
        rw[<-hz dk (zM m8)];exact (zS hq).1
       obtain ⟨u,hu,fj⟩:=u7 i' dk m8 q c hq;refine ⟨u,?_,fj⟩;rw[zi,<-hu];rcases Nat.lt_or_gt_of_ne Pp with g9|rn
       ·have:(i'+1)*b.a6<=i*b.a6:=zR _ g9
        rw[Nat.succ_mul]at this;rw[if_pos (by omega)]
       ·have:(i+1)*b.a6<=i'*b.a6:=zR _ rn
        rw[Nat.succ_mul]at this;rw[if_neg (by omega),if_neg (by omega)])
     (m.w.setRow g o9) (kJ hm hB o9) (by simp) (λ k hk=>setRow_other _ _ _ _ hk) (setRow_heap _ _ _ _ _ _ hh)
    intro K Q hK;refine AhQ (w':=m.w.setRow g o9) ?_ (hK undef ⟨m.ν,_,m.w.setRow g o9⟩ rfl k1 k2 rP);have Mp:(a.eval v).cells.size=inf.size:=by rw[o7,<-hn,<-hlen];simp
    simp only[execOp,j9,w4,Instr.storeAt,storeVar,Instr.sureAddr,Sem.run_bind,Sem.run_pure,Result.andThen_ok,sizeOf,typeInfo,run_program,hi];rw[if_neg (by simpa using Mp)];simp only[Sem.run_bind,Sem.run_pure,Result.andThen_ok,vi]
   ·cases g8
theorem Yp (hm:BP B S w0 m) (hs:CM B S m ρ a.eval) {s a6 bytes:Nat} {zero:List AV} {l' c':AP} (h:BD P num o.op (.mk s a6 bytes zero l' c')=true) {kl kc:IntKind} {l c:Int} (hl:ρ l' = .int kl l) (hc:ρ c' = .int kc c) (h0:0<=l) (oe:l<=c) (hb:c*bytes<=EK) (Cy:c<=9223372036854775807) (hz:zero.length=a6) :
  CQ B S w0 P o a m (.new s ⟨a6,List.replicate l.toNat zero⟩ (λ t => .row s t a6 0 l.toNat)):=by
 obtain ⟨ty,lx,cx,e,inf,z,j9,h1,h2,hu,hi,o7,ri,cj,gd,k8⟩:=Ae8 h;have el:=HE (hl ▸ hs lx l' h1);have ec:=HE (hc ▸ hs cx c' h2);have m5:CL B S m zero z.cells.toList:=SU gd;have hzs:z.cells.size=a6:=by rw[<-hz,m5.1];simp
 refine mK hm s a6 l.toNat c.toNat _ (madeCells z.cells (c.toNat*inf.size)) e (Nat.pos_of_ne_zero k8) (by omega) (by rw[size_madeCells,o7];exact Nat.le_refl _) (λ x hx=>by rw[(List.mem_replicate.1 hx).2,hz]) (λ i cs m8 j c1 hj => ?_) ?_
 ·rw[List.getElem?_replicate]at m8
  split at m8
  ·rename_i w5
   obtain rfl:zero=cs:=by simpa using m8
   obtain ⟨u,kz,fj⟩:=SM m5 hj;refine ⟨u,?_,fj⟩;have db:j<a6:=by rw[<-hz];exact (zS hj).1
   have g9:i*a6+j<c.toNat*inf.size:=by
    rw[o7];have h3:(i+1)*a6<=c.toNat*a6:=zR _ (by omega);rw[Nat.succ_mul]at h3;omega
   have Ln:(i*a6+j)%z.cells.size=j:=by rw[hzs,Nat.add_comm,Nat.add_mul_mod_self_right,Nat.mod_eq_of_lt db]
   have Dw:z.cells[j]? = some u:=by simpa using kz
   have hjs:j<z.cells.size:=(Array.getElem?_eq_some_iff.1 Dw).1;have np:z.cells[j]=u:=(Array.getElem?_eq_some_iff.1 Dw).2;simp [madeCells,g9,Ln,hjs,np]
  ·cases m8
 ·have:=run_make (P:=P) m.w ty e inf z hu hi cj kl kc l c h0 oe (by rw[ri,Int.mul_comm];simp only[EK]at hb;omega) Cy
  simp only[execOp,j9,el,ec,Sem.run_bind,this,Result.andThen_ok,Sem.run_pure]
theorem Yf (hm:BP B S w0 m) (hs:CM B S m ρ a.eval) {x':AP} {i:Nat} (h:BD P num o.op (.ext x' i)=true) {vs:List AV} {v:AV} (hx:ρ x' = .e6 vs) (hv:vs[i]? = some v):CQ B S w0 P o a m (.val v):=by
 obtain ⟨x,j9,h1⟩:=Ae4 h;obtain ⟨us,w4,hl,hc⟩:=bH (hx ▸ hs x x' h1);have g9:i<us.length:=by rw[<-hl];exact (zS hv).1
 refine EB hm (u:=us[i]) ?_ (.ca (hc i v us[i] hv (zE g9)));simp [execOp,j9,w4,Instr.extract,g9]
theorem Yo (hm:BP B S w0 m) (hs:CM B S m ρ a.eval) {x':AP} (h:BD P num o.op (.len x')=true) {n:Nat} (hx:K6 (ρ x')=some n):CQ B S w0 P o a m (.val (.int .i64 n)):=by
 obtain ⟨x,t,e,j9,h1,hu⟩:=Ae7 h;have s9:=hs x x' h1;obtain ⟨ad,cap,w4⟩ : ∃ ad cap,a.eval x = .slice ad n cap:=by
  generalize ρ x'=av at *;cases av with
  | sl l es =>
   have hr:=XT s9;simp only[K6,Option.some.injEq]at hx;subst hx;generalize a.eval x=v at *;cases hr with
   | jb=>exact ⟨_,_,rfl⟩
   | sl=>exact ⟨_,_,rfl⟩
  | row s t z off len =>
   obtain ⟨ad,cap,hv,_⟩:=SP s9;simp only[K6,Option.some.injEq]at hx;subst hx;exact ⟨ad,cap,hv⟩
  | nil =>
   simp only[K6,Option.some.injEq]at hx;subst hx;exact ⟨_,_,PU s9⟩
  | _=>simp [K6]at hx
 refine EB hm (u := .int .i64 n) ?_ (O7 _ _);simp [execOp,j9,resolve,invoke,builtin,w4,Builtin.len_,run_underlying hu,goInt]
theorem Uq (hm:BP B S w0 m) (hs:CM B S m ρ a.eval) {x':AP} (h:BD P num o.op (.eg x')=true) (hx:ρ x' = .nil):CQ B S w0 P o a m (.val (.int .i64 0)):=by
 obtain ⟨x,t,e,j9,h1,hu⟩:=Ae2 h;have w4:=PU (hx ▸ hs x x' h1);refine EB hm (u := .int .i64 0) ?_ (O7 _ _);simp [execOp,j9,resolve,invoke,builtin,w4,Builtin.cap_,run_underlying hu,goInt]
theorem Q4 (hs:CM B S m ρ a.eval) : ∀ {xs:List Operand} {ys:List AP},D5 xs ys=true->xs.length=ys.length /\ ∀ (j:Nat) (x:Operand) (y:AP),xs[j]? = some x->ys[j]? = some y->CV B S m (ρ y) (a.eval x)
 | [],[],_=>⟨rfl,λ j x y h=>by simp at h⟩
 | x::r,y::l,h=>by
  simp only[D5,Bool.and_eq_true]at h;obtain ⟨ih1,ow⟩:=Q4 hs h.2;refine ⟨by simp [ih1],λ j x' y' hx hy => ?_⟩;cases j with
  | zero=>simp at hx hy;subst hx hy;exact hs _ _ h.1
  | succ j=>exact ow j x' y' (by simpa using hx) (by simpa using hy)
 | [],_::_,h=>by simp [D5]at h
 | _::_,[],h=>by simp [D5]at h
theorem uI (mx:Bool) (hs:CM B S m ρ a.eval) (w:World) : ∀ (xs:List Operand) (ys:List AP) (v:AV) (u:Value) (r:AV),D5 xs ys=true->CV B S m v u->J4 mx v (ys.map ρ)=some r->(∃ k n,v = .int k n) -> ∃ k n,r = .int k n /\
  ((xs.map a.eval).foldlM (if mx then Builtin.max2 else Builtin.min2) u).run P w = .ok (.int k n) w
 | [],[],v,u,r,_,hc,hm,⟨k,n,hv⟩=>by
  simp only[List.map_nil,J4,Option.some.injEq]at hm;subst hm hv;obtain rfl:=HE hc;exact ⟨k,n,rfl,by simp⟩
 | x::xr,y::yr,v,u,r,he,hc,hm,⟨k,n,hv⟩=>by
  simp only[D5,Bool.and_eq_true]at he;simp only[List.map_cons,J4]at hm;have hx:=hs x y he.1;subst hv;obtain rfl:=HE hc;cases hy:ρ y with
  | int k' n' =>
   rw[hy]at hx hm;have hxe:=HE hx;simp only[O8]at hm;obtain ⟨k2,n2,rfl,h2⟩:=uI mx hs w xr yr _ (.int k (if mx then (if n'>n then n' else n) else (if n'<n then n' else n))) r he.2 (O7 _ _) hm ⟨_,_,rfl⟩;refine ⟨k2,n2,rfl,?_⟩;simp only[List.map_cons,List.foldlM_cons,Sem.run_bind,hxe];cases mx
   ·simpa [Builtin.min2] using h2
   ·simpa [Builtin.max2] using h2
  | _=>rw[hy]at hm;simp [O8]at hm
 | [],_::_,_,_,_,he,_,_,_=>by simp [D5]at he
 | _::_,[],_,_,_,he,_,_,_=>by simp [D5]at he
theorem Yr (hm:BP B S w0 m) (hs:CM B S m ρ a.eval) {mx:Bool} {l8:List AP} (h:BD P num o.op (.mm mx l8)=true) {v r:AV} {l:List AV} (hx:l8.map ρ=v::l) (hv:J4 mx v l=some r) (hi : ∃ k n,v = .int k n):CQ B S w0 P o a m (.val r):=by
 obtain ⟨xs,ts,j9,he⟩:=qK h;cases l8 with
 | nil=>simp at hx
 | cons y yr =>
  simp only[List.map_cons,List.cons.injEq]at hx;obtain ⟨rfl,rfl⟩:=hx;obtain ⟨xl⟩:=xs;cases xl with
  | nil=>simp [D5]at he
  | cons x xr =>
   simp only[D5,Bool.and_eq_true]at he;obtain ⟨k,n,rfl,n7⟩:=uI (P:=P) mx hs m.w xr yr (ρ y) (a.eval x) r he.2 (hs x y he.1) hv hi;refine EB hm (u := .int k n) ?_ (O7 _ _);cases mx
   ·simp only[execOp,j9,resolve,invoke,builtin,Builtin.min_,Sem.run_bind,Sem.run_pure,Result.andThen_ok]at n7 ⊢
    simp at n7 ⊢;rw[n7];rfl
   ·simp only[execOp,j9,resolve,invoke,builtin,Builtin.max_,Sem.run_bind,Sem.run_pure,Result.andThen_ok]at n7 ⊢
    simp at n7 ⊢;rw[n7];rfl
end
end Go.b8

namespace Go.b8
open Go.RowKit
section
variable {B:Nat} {S:Nat->Prop} {w0:World} {m:M}
variable {P:Program} {num:Nat->Nat} {o:Oper} {a:Act} {ρ:AP->AV}
def G1 (ρ:AP->AV) (d:Nat):Option AP->Option Int
 | none=>some d
 | some y=>match ρ y with | .int _ n=>some n|_=>none
theorem ZN (ty e:TypeId) (inf:TypeInfo) (hu:P.underlying ty=some (.slice e)) (hi:P.info? e=some inf) (hs:CM B S m ρ a.eval) {lo m8:Option Operand} {ox Fv:Option AP} (og:OA lo ox=true) (Hz:OA m8 Fv=true)
  (ad:Option Addr) (len cap:Nat) (l h:Int) (hl:G1 ρ 0 ox=some l) (hh:G1 ρ len Fv=some h) (h0:0<=l) (hlh:l<=h) (hhl:h<=len) (oe:len<=cap) (w:World) :
  (Instr.sliceAt ty (.slice ad len cap) (lo.map a.eval) (m8.map a.eval) none).run P w = .ok (.slice (if cap=l.toNat then ad else ad.map (·.add (l.toNat*inf.size))) (h.toNat-l.toNat) (cap-l.toNat)) w:=by
 have wh : ∀ {x:Option Operand} {y:Option AP} {d:Nat} {n:Int},OA x y=true->G1 ρ d y=some n->(x=none/\y=none/\n=d) \/ ∃ x' k,x=some x'/\a.eval x' = .int k n:=by
  intro x y d n nq hb;cases x with
  | none=>cases y with
   | none=>simp [G1]at hb;exact .inl ⟨rfl,rfl,hb.symm⟩
   | some y=>simp [OA]at nq
  | some x=>cases y with
   | none=>simp [OA]at nq
   | some y =>
    simp only[OA]at nq;simp only[G1]at hb;cases hy:ρ y with
    | int k q =>
     rw[hy]at hb;simp only[Option.some.injEq]at hb;subst hb;exact .inr ⟨x,k,rfl,HE (hy ▸ hs x y nq)⟩
    | _=>rw[hy]at hb;cases hb
 have zk:h<=(cap:Int):=by omega
 unfold Instr.sliceAt Instr.slice Instr.sliceBounds;rcases wh og hl with ⟨rfl,_,rfl⟩|⟨x1,k1,rfl,e1⟩<;>rcases wh Hz hh with ⟨rfl,_,rfl⟩|⟨x2,k2,rfl,e2⟩
 ·simp [run_underlying hu,sizeOf,typeInfo,hi]
 ·have uf:=run_sliceBound (P:=P) w k2 h cap .sliceAcap (by omega) zk
  simp [run_underlying hu,sizeOf,typeInfo,hi,e2,uf]
 ·have o3:=run_sliceBound (P:=P) w k1 l len .sliceB h0 (by omega)
  simp [run_underlying hu,sizeOf,typeInfo,hi,e1,o3]
 ·have uf:=run_sliceBound (P:=P) w k2 h cap .sliceAcap (by omega) zk
  have o3:=run_sliceBound (P:=P) w k1 l h.toNat .sliceB h0 (by omega);simp [run_underlying hu,sizeOf,typeInfo,hi,e1,e2,uf,o3]
theorem Yw (hm:BP B S w0 m) (hs:CM B S m ρ a.eval) {a6:Nat} {x':AP} {ox m8:Option AP} (h:BD P num o.op (.fk a6 x' ox m8)=true) (hx:ρ x' = .nil) (hl:G1 ρ 0 ox=some 0) (hh:G1 ρ 0 m8=some 0):CQ B S w0 P o a m (.val .nil):=by
 obtain ⟨ty,x,lo,ru,e,inf,j9,h1,h2,h3,hu,hi,o7,k8⟩:=dV h;have w4:=PU (hx ▸ hs x x' h1);have n7:=ZN ty e inf hu hi hs h2 h3 none 0 0 0 0 hl hh (by omega) (by omega) (by omega) (by omega) m.w;refine EB hm (u := .slice none 0 0) ?_ (.ca (.one .nil));simp only[execOp,j9,w4,Sem.run_bind,Option.map_none,n7];rfl
theorem Yx (hm:BP B S w0 m) (hs:CM B S m ρ a.eval) {a6:Nat} {x':AP} {ox m8:Option AP} (h:BD P num o.op (.fk a6 x' ox m8)=true) {s t z off len:Nat} {l u:Int} (hx:ρ x' = .row s t z off len) (hl:G1 ρ 0 ox=some l) (hh:G1 ρ len m8=some u) (h0:0<=l) (Ie:l<=u) (np:u<=len) (hz:z=a6) :
  CQ B S w0 P o a m (.val (.row s t z (off+l.toNat) (u.toNat-l.toNat))):=by
 obtain ⟨ty,x,lo,ru,e,inf,j9,h1,h2,h3,hu,hi,o7,k8⟩:=dV h;obtain ⟨ad,cap,w4,ht,cj,oe,ha,hb⟩:=SP (hx ▸ hs x x' h1);have n7:=ZN ty e inf hu hi hs h2 h3 ad len cap l u hl hh h0 Ie np oe m.w;refine EB hm ?_ (.ca (.one (.row s t z (off+l.toNat) (u.toNat-l.toNat) (if cap=l.toNat then ad else ad.map (·.add (l.toNat*inf.size))) (cap-l.toNat) ht cj (by omega) (λ hp => ?_) λ b j7 => ?_)))
 ·simp only[execOp,j9,w4,Sem.run_bind,Option.map_none,n7]
  rfl
 ·rw[if_neg (by omega)]
  obtain ⟨Cx,rfl⟩:=Option.isSome_iff_exists.1 (ha (by omega));rfl
 ·obtain ⟨qm,bn⟩:=hb b j7
  refine ⟨qm,?_⟩;rcases bn with ⟨gk,bh⟩|⟨g,arr,e',hg,kr,Hy,hle⟩
  ·exact .inl ⟨by omega,by omega⟩
  ·by_cases hc:cap=l.toNat
   ·exact .inl ⟨by omega,by omega⟩
   ·refine .inr ⟨g,arr,e',hg,?_,Hy,?_⟩
    ·rw[if_neg hc,kr,o7,hz]
     simp only[Option.map_some,G0,Nat.add_mul]
    ·rw[show off+l.toNat+(cap-l.toNat)=off+cap by omega]
     exact hle
theorem Yy (hm:BP B S w0 m) (hs:CM B S m ρ a.eval) {a6:Nat} {x':AP} {ox m8:Option AP} (h:BD P num o.op (.fk a6 x' ox m8)=true) {lt:Bool} {es:List (List AV)} {l u:Int} (hx:ρ x' = .sl lt es) (hl:G1 ρ 0 ox=some l) (hh:G1 ρ es.length m8=some u) (h0:0<=l) (Ie:l<=u) (np:u<=es.length) (hz : ∀ e∈es,e.length=a6) :
  CQ B S w0 P o a m (.val (.sl lt ((es.take u.toNat).drop l.toNat))):=by
 obtain ⟨ty,x,lo,ru,e,inf,j9,h1,h2,h3,hu,hi,o7,k8⟩:=dV h;have iy:=XT (hx ▸ hs x x' h1);generalize w4:a.eval x=v at iy;cases iy with
 | jb _ ad cap =>
  have n7:=ZN ty e inf hu hi hs h2 h3 ad 0 cap l u hl hh h0 Ie (by simpa using np) (by omega) m.w;simp only[List.length_nil]at np;rw[show (([]:List (List AV)).take u.toNat).drop l.toNat=[] by simp];refine EB hm (u := .slice (if cap=l.toNat then ad else ad.map (·.add (l.toNat*inf.size))) 0 (cap-l.toNat)) ?_ (.ca (.one (.rd (.jb lt _ _))));simp only[execOp,j9,w4,Sem.run_bind,Option.map_none,n7];rw[show u.toNat-l.toNat=0 by omega];rfl
 | sl _ _ b ob q5 cap uu ux hp hR x9 gd hc hr =>
  have n7:=ZN ty e inf hu hi hs h2 h3 (some ⟨b,ob,none⟩) es.length cap l u hl hh h0 Ie np x9 m.w;have Hg:q5=a6:=by
   cases es with
   | nil=>exact absurd rfl ux
   | cons q r=>rw[<-gd q (by simp),hz q (by simp)]
  subst Hg;by_cases cj:u.toNat-l.toNat=0
  ·have:(es.take u.toNat).drop l.toNat=[]:=by
    apply List.eq_nil_of_length_eq_zero;simp;omega
   rw[this];refine EB hm (u := .slice (if cap=l.toNat then some ⟨b,ob,none⟩ else (some (⟨b,ob,none⟩:Addr)).map (·.add (l.toNat*inf.size))) 0 (cap-l.toNat)) ?_ (.ca (.one (.rd (Rd.jb lt _ _))));simp only[execOp,j9,w4,Sem.run_bind,Option.map_none,n7];rw[cj];rfl
  ·have hlen:((es.take u.toNat).drop l.toNat).length=u.toNat-l.toNat:=by simp;omega
   have l9 : ∀ i,i<u.toNat-l.toNat->((es.take u.toNat).drop l.toNat)[i]? = es[l.toNat+i]? := λ i m8=>by
    rw[List.getElem?_drop,List.getElem?_take,if_pos (by omega)]
   refine EB hm (u := .slice (some ⟨b,ob+l.toNat*q5,none⟩) ((es.take u.toNat).drop l.toNat).length (cap-l.toNat)) ?_ (.ca (.one (.rd (.sl lt _ b (ob+l.toNat*q5) q5 (cap-l.toNat) (λ i j=>uu (l.toNat+i) j) (λ e=>cj (by rw[<-hlen,e];rfl)) hp hR (by rw[hlen];omega) (λ q hq=>gd q (List.mem_of_mem_take (List.mem_of_mem_drop hq))) (λ i q m8 j c hj => ?_) (λ i q m8 j c hj => ?_)))))
   ·simp only[execOp,j9,w4,Sem.run_bind,Option.map_none,n7]
    rw[if_neg (by omega),hlen,o7];simp only[Option.map_some,G0];rfl
   ·have w5:i<u.toNat-l.toNat:=by rw[<-hlen];exact (zS m8).1
    rw[l9 i w5]at m8;rw[show ob+l.toNat*q5+(i*q5+j)=ob+((l.toNat+i)*q5+j) by rw[Nat.add_mul];omega];exact hc _ q m8 j c hj
   ·have w5:i<u.toNat-l.toNat:=by rw[<-hlen];exact (zS m8).1
    rw[l9 i w5]at m8;exact hr _ q m8 j c hj
structure T3 (B:Nat) (S:Nat->Prop) (m:M) (a6:Nat) (ys:List (List AV)) (ad:Option Addr) (news:List Value):Prop where
 len:news.length=ys.length*a6
 cells : ∀ b,ad=some b -> ∀ j v,news[j]? = some v->m.w.cell? (b.add j)=some v
 some_:ys≠[]->ad.isSome=true
 rel : ∀ i cs,ys[i]? = some cs -> ∀ j c,cs[j]? = some c -> ∃ u,news[i*a6+j]? = some u/\CC B S m c u
theorem Vg (a6 i j:Nat) (h:j<a6):(i*a6+j)/a6=i/\(i*a6+j)%a6=j:=by
 constructor
 ·rw[Nat.add_comm,Nat.add_mul_div_right _ _ (by omega),Nat.div_eq_of_lt h,Nat.zero_add]
 ·rw[Nat.add_comm,Nat.add_mul_mod_self_right,Nat.mod_eq_of_lt h]
theorem cD (hm:BP B S w0 m) {av:AV} {v:Value} (hc:CV B S m av v) {ys:List (List AV)} (he:EP m.own av=some ys) {a6:Nat} (hz : ∀ e∈ys,e.length=a6) (h0:0<a6) :
  ∃ ad cap news,v = .slice ad ys.length cap/\T3 B S m a6 ys ad news:=by
 cases av with
 | sl l es =>
  simp only[EP,Option.some.injEq]at he;subst he;cases XT hc with
  | jb _ ad cap=>exact ⟨ad,cap,[],rfl,by simp,λ b _ j v hv=>by simp at hv,λ h=>absurd rfl h,λ i cs hi=>by simp at hi⟩
  | sl _ _ b ob q5 cap uu ux hp hR x9 gd m5 hr =>
   have Hg:q5=a6:=by
    cases es with
    | nil=>exact absurd rfl ux
    | cons q r=>rw[<-gd q (by simp),hz q (by simp)]
   subst Hg;refine ⟨some ⟨b,ob,none⟩,cap,(List.range (es.length*q5)).map (λ k=>uu (k/q5) (k%q5)),rfl,by simp,λ b' j7 j v hv => ?_,λ_=>rfl,λ i cs hi j c hj => ?_⟩
   ·obtain rfl:(⟨b,ob,none⟩:Addr)=b':=by simpa using j7
    rw[List.getElem?_map]at hv;have db:j<es.length*q5:=by
     rcases Nat.lt_or_ge j (es.length*q5) with h|h
     ·exact h
     ·rw[List.getElem?_eq_none (by simpa using h)]at hv;cases hv
    rw[List.getElem?_range db]at hv;simp only[Option.map_some,Option.some.injEq]at hv;subst hv;have hd:j/q5<es.length:=Nat.div_lt_of_lt_mul (by rw[Nat.mul_comm];exact db);have Lm:j%q5<q5:=Nat.mod_lt _ h0;have dm:(es[j/q5]).length=q5:=gd _ (List.getElem_mem hd);have:=m5 (j/q5) _ (zE hd) (j%q5) _ (zE (by rw[dm];exact Lm))
    rw[G0,<-this];congr 2;have:=Nat.div_add_mod j q5
    rw[Nat.mul_comm]at this;omega
   ·have db:j<q5:=by rw[<-gd cs (zM hi)];exact (zS hj).1
    have w5:i<es.length:=(zS hi).1;have g9:i*q5+j<es.length*q5:=by
     have:(i+1)*q5<=es.length*q5:=zR _ w5
     rw[Nat.succ_mul]at this;omega
    obtain ⟨e1,e2⟩:=Vg q5 i j db;refine ⟨uu i j,?_,.rd (hr i cs hi j c hj)⟩;rw[List.getElem?_map,List.getElem?_range g9];simp [e1,e2]
 | nil =>
  simp only[EP,Option.some.injEq]at he;subst he;exact ⟨none,0,[],PU hc,by simp,λ b hb=>(by cases hb),λ h=>absurd rfl h,λ i cs hi=>by simp at hi⟩
 | row s t z off len =>
  obtain ⟨ad,cap,hv,ht,cj,oe,ha,hb⟩:=SP hc;simp only[EP]at he;cases l9:m.own.get s t with
  | none=>simp [l9]at he
  | some b =>
   simp only[l9]at he;split at he
   ·rename_i hle
    obtain ⟨hle,qm⟩:=hle;obtain rfl:=Option.some.inj he;have sv:((b.es.drop off).take len).length=len:=by simp;omega
    obtain ⟨_,bn⟩:=hb b l9;by_cases gk:len=0
    ·subst gk
     refine ⟨ad,cap,[],by simpa using hv,by simp,λ b _ j v hv=>by simp at hv,λ h=>absurd (by simp) h,λ i cs hi=>by simp at hi⟩
    ·rcases bn with ⟨h1,_⟩|⟨g,arr,e',hg,kr,Hy,Anj⟩
     ·exact absurd h1 gk
     ·obtain ⟨gd,bd⟩:=hm.c7 s t b l9
      rw[hg]at bd;obtain ⟨hB,tv,e2,zo,u7⟩:=bd;rw[Hy]at zo;obtain ⟨rfl,rfl⟩:arr=tv/\e'=e2:=by simpa using zo
      have hez:a6=z:=by
       have g9:off<b.es.length:=by omega
       have h1:b.es[off]∈(b.es.drop off).take len:=by
        have:((b.es.drop off).take len)[0]? = some b.es[off]:=by
         rw[List.getElem?_take,if_pos (by omega),List.getElem?_drop];simp [g9]
        exact zM this
       rw[<-hz _ h1,gd _ (List.getElem_mem g9),qm]
      subst hez;have o7:off*a6+len*a6<=arr.size:=by
       have:(off+len)*a6<=(off+cap)*a6:=zR _ (by omega)
       rw[Nat.add_mul]at this;omega
      refine ⟨ad,cap,(arr.toList.drop (off*a6)).take (len*a6),by rw[sv];exact hv,by rw[sv];simp;omega,λ b' j7 j v mg => ?_,λ_=>by rw[kr];rfl,λ i cs hi j c hj => ?_⟩
      ·rw[kr]at j7
       obtain rfl:(⟨g,off*a6,none⟩:Addr)=b':=by simpa using j7
       rw[List.getElem?_take]at mg;split at mg
       ·rw[List.getElem?_drop]at mg
        rw[G0,XG Hy];simpa using mg
       ·cases mg
      ·rw[List.getElem?_take]at hi
       split at hi
       ·rename_i w5
        rw[List.getElem?_drop]at hi;have db:j<a6:=by rw[<-qm,<-gd cs (zM hi)];exact (zS hj).1
        obtain ⟨u,hu,fj⟩:=u7 (off+i) cs hi j c hj;refine ⟨u,?_,fj⟩;have g9:i*a6+j<len*a6:=by
         have:(i+1)*a6<=len*a6:=zR _ w5
         rw[Nat.succ_mul]at this;omega
        rw[List.getElem?_take,if_pos g9,List.getElem?_drop,<-hu,qm];simp only[Array.getElem?_toList];congr 1;rw[Nat.add_mul];omega
       ·cases hi
   ·cases he
 | bj v' =>
  cases v' with
  | bool b =>
   simp only[EP,Option.some.injEq]at he;subst he;obtain ⟨ad,cap,hv,_⟩:=lS hc;exact ⟨ad,cap,[],hv,by simp,λ b' j7 j v mg=>by simp at mg,λ h=>absurd rfl h,λ i cs hi=>by simp at hi⟩
  | _=>simp [EP]at he
 | _=>simp [EP]at he
theorem T3.one {a6:Nat} {ys:List (List AV)} {ad:Option Addr} {news:List Value} (h:T3 B S m a6 ys ad news) (h0:0<a6) (hz : ∀ e∈ys,e.length=a6) : ∀ u∈news,u.oneCell'=true:=by
 intro u hu;obtain ⟨k,hk,rfl⟩:=List.getElem_of_mem hu;rw[h.len]at hk;have hd:k/a6<ys.length:=Nat.div_lt_of_lt_mul (by rw[Nat.mul_comm];exact hk);have Lm:k%a6<a6:=Nat.mod_lt _ h0;have dm:(ys[k/a6]).length=a6:=hz _ (List.getElem_mem hd);obtain ⟨u',kz,hc⟩:=h.rel (k/a6) _ (zE hd) (k%a6) _ (zE (by rw[dm];exact Lm));have ji:k/a6*a6+k%a6=k:=by
  have:=Nat.div_add_mod k a6
  rw[Nat.mul_comm]at this;exact this
 rw[ji]at kz;obtain rfl:news[k]=u':=by
  have:=(zS kz).2
  exact this
 exact hc.one
theorem T3.src {a6:Nat} {ys:List (List AV)} {ad:Option Addr} {news:List Value} (h:T3 B S m a6 ys ad news) (h0:0<a6) (hz : ∀ e∈ys,e.length=a6) {t e:TypeId} (hu:P.underlying t=some (.slice e)) (cap:Nat):Src P a6 t (.slice ad ys.length cap) ys.length news m.w:=by
 cases ad with
 | none =>
  have sz:ys=[]:=by
   cases ys with
   | nil=>rfl
   | cons y r=>exact absurd (h.some_ (by simp)) (by simp)
  subst sz;have hn:news=[]:=List.eq_nil_of_length_eq_zero (by simpa using h.len);subst hn;exact Src.ofNil m.w hu cap
 | some b=>exact Src.ofSlice m.w hu b ys.length cap news h.len (h.cells b rfl) (h.one h0 hz)
theorem AfR (arr:Array Value) (off:Nat) (news:List Value) (h:off+news.length<=arr.size) (p:Nat):(arr.toList.take off++news++arr.toList.drop (off+news.length)).toArray[p]? = if p<off then arr[p]? else if p<off+news.length then news[p-off]? else arr[p]? := by
 simp only[List.getElem?_toArray];rw[gZ _ _ _ (by simpa using h)];simp only[Array.getElem?_toList]
theorem AgD (t tx e ex:TypeId) (i:TypeInfo) (ht:P.underlying t=some (.slice e)) (hx:P.underlying tx=some (.slice ex)) (hi:P.info? e=some i) (g off qa te:Nat) (x:Value) (n:Nat) (news:List Value) (w:World) (hs:Src P i.size tx x n news w) (gl:qa+n<=te) (arr:Array Value) (e':TypeId)
  (hh:w.heap[g]? = some (.cells arr e' (0,0))) (o7:off+qa*i.size+news.length<=arr.size) (ty:TypeId) :
  (Builtin.append_ #[t,tx] ty #[.slice (some ⟨g,off,none⟩) qa te,x]).run P w = .ok (.slice (some ⟨g,off,none⟩) (qa+n) te) (w.setRow g (arr.toList.take (off+qa*i.size)++news++arr.toList.drop (off+qa*i.size+news.length)).toArray):=by
 have g8:=run_storeCells_at (P:=P) g (off+qa*i.size) e' news 0 arr w hh (by omega) hs.one;simp only[Nat.add_zero]at g8;simp [Builtin.append_,run_underlying ht,run_underlying hx,sizeOf,typeInfo,hi,hs.len,gl,hs.cells,G0,g8]
theorem uF (t tx e ex:TypeId) (i:TypeInfo) (ht:P.underlying t=some (.slice e)) (hx:P.underlying tx=some (.slice ex)) (hi:P.info? e=some i) (ad:Option Addr) (te:Nat) (x:Value) (w:World) (hs:Src P i.size tx x 0 [] w) (ty:TypeId) :
  (Builtin.append_ #[t,tx] ty #[.slice ad 0 te,x]).run P w = .ok (.slice ad 0 te) w:=by
 have hc:=hs.cells;cases ad<;>simp [Builtin.append_,run_underlying ht,run_underlying hx,sizeOf,typeInfo,hi,hs.len,hc,storeCells]
theorem TK {x y:Operand} {t tx:TypeId} (j9:o.op = .call ⟨.builtin .append,#[x,y],#[t,tx]⟩) {u:Value} {w w':World} (h:(Builtin.append_ #[t,tx] o.type #[a.eval x,a.eval y]).run P w = .ok u w'):(execOp a.eval o).run P w = .ok (.value u) w':=by
 simp [execOp,j9,resolve,invoke,builtin,h]
theorem Aei (ck news:List Value) (z:Array Value) (k p:Nat) (h:p<ck.length+news.length):((ck++news).toArray++Builtin.zeroCells z k)[p]? = (ck++news)[p]? := by
 rw[Array.getElem?_append_left (by simpa using h)];simp
theorem Agy {a6 len:Nat} {xs ys:List (List AV)} {ck news:List Value} (Cr:xs.length=len) (Ii:ck.length=len*a6) (hzx : ∀ e∈xs,e.length=a6)
  (hx : ∀ i cs,xs[i]? = some cs -> ∀ j c,cs[j]? = some c -> ∃ u,ck[i*a6+j]? = some u/\CC B S m c u)
  (hy : ∀ i cs,ys[i]? = some cs -> ∀ j c,cs[j]? = some c -> ∃ u,news[i*a6+j]? = some u/\CC B S m c u) :
  ∀ i cs,(xs++ys)[i]? = some cs -> ∀ j c,cs[j]? = some c -> ∃ u,(ck++news)[i*a6+j]? = some u/\CC B S m c u:=by
 intro i cs hi j c hj;by_cases w5:i<len
 ·rw[List.getElem?_append_left (by omega)]at hi
  obtain ⟨u,hu,hc⟩:=hx i cs hi j c hj;exact ⟨u,by rw[List.getElem?_append_left (by have:=(zS hu).1;omega)];exact hu,hc⟩
 ·rw[List.getElem?_append_right (by omega),Cr]at hi
  obtain ⟨u,hu,hc⟩:=hy (i-len) cs hi j c hj;refine ⟨u,?_,hc⟩;have e1:i*a6=len*a6+(i-len)*a6:=by rw[<-Nat.add_mul];congr 1;omega
  rw[List.getElem?_append_right (by omega),<-hu];congr 1;omega
theorem rX {s z n cap:Nat} {es:List (List AV)} {w':World} {g t:Nat} {arr:Array Value} {e:TypeId} (hz:0<z) (hn:n<=cap) (hg:w'.heap[g]? = some (.cells arr e (0,0))) (hc:cap*z<=arr.size) :
  CV B S ⟨e9 m s (some g),m.own.put s (((m.own s).m7 t none).new ⟨z,es⟩),w'⟩ (.row s (m.own.e8 s) z 0 n) (.slice (some ⟨g,0,none⟩) n cap):=by
 refine .ca (.one (.row s (m.own.e8 s) z 0 n _ cap ?_ hz hn (λ_=>rfl) λ b' j7=>⟨?_,.inr ⟨g,arr,e,?_,by simp,hg,by simpa using hc⟩⟩))
 ·show _<AH.e8 _ s
  rw[XN];simp
 ·change AH.get _ s _=some b' at j7
  rw[RC,if_pos ⟨rfl,rfl⟩]at j7;obtain rfl:(⟨z,es⟩:DR)=b':=by simpa using j7
  rfl
 ·simp [e9]
theorem Td (hm:BP B S w0 m) (ob:Obj):Below B w0 (m.w.drew.alloc ob):=hm.below.drew.alloc (by simpa using hm.size) ob
theorem Vo (hm:BP B S w0 m) (hs:CM B S m ρ a.eval) {s a6 bytes:Nat} {x' y':AP} (h:BD P num o.op (.app s a6 bytes x' y')=true) {ys:List (List AV)} (hy:EP m.own (ρ y')=some ys) (hz : ∀ e∈ys,e.length=a6) {s' t len:Nat} {b:DR} (hx:ρ x' = .row s' t a6 0 len) (l9:m.own.get s' t=some b)
  (qm:b.a6=a6) (hle:len<=b.es.length) (gl:(len+ys.length)*bytes<=EK) (Cy:len+ys.length<=9223372036854775807) :
  CQ B S w0 P o a m (.ct (.row s' (m.own.e8 s') a6 0 (len+ys.length)) (m.own.put s' (((m.own s').m7 t none).new ⟨a6,b.es.take len++ys⟩))):=by
 obtain ⟨x,y,ty,e,i,z,tx,ex,j9,h1,h2,hu,hi,o7,ri,cj,gd,k8,Ad⟩:=qH h;have h0:0<a6:=Nat.pos_of_ne_zero k8;obtain ⟨ad,cap,w4,ht,_,oe,ha,hb⟩:=SP (hx ▸ hs x x' h1);obtain ⟨Am,jq,news,wm,dm⟩:=cD hm (hs y y' h2) hy hz h0;have su:Src P i.size tx (.slice Am ys.length jq) ys.length news m.w:=by rw[o7];exact dm.src h0 hz Ad jq
 obtain ⟨nf,bd⟩:=hm.c7 s' t b l9;obtain ⟨_,bn⟩:=hb b l9;have de:(b.es.take len).length=len:=by simp;omega
 have Ag : ∀ q∈b.es.take len++ys,q.length=a6:=λ q hq=>by
  rcases List.mem_append.1 hq with hq|hq
  ·rw[<-qm];exact nf q (List.mem_of_mem_take hq)
  ·exact hz q hq
 intro K Q hK;by_cases ui:len+ys.length<=cap
 ·rcases bn with ⟨gk,bh⟩|⟨g,arr,e',hg,kr,hh,Ku⟩
  ·have sz:ys=[]:=List.eq_nil_of_length_eq_zero (by omega)
   subst sz;subst gk bh;have Ce:news=[]:=List.eq_nil_of_length_eq_zero (by simpa using dm.len);subst Ce;have n7:=uF ty tx e ex i hu Ad hi ad 0 (.slice Am 0 jq) m.w (by simpa using su) o.type;obtain ⟨k1,k2⟩:=eV hm s' t b ⟨a6,b.es.take 0++[]⟩ l9 none m.w hm.below (Nat.le_refl _) (λ_ _ _=>rfl) (by simp) (by simp) (by simp);refine OI (TK j9 (by rw[w4,wm];simpa using n7)) (hK _ ⟨e9 m s' none,m.own.put s' (((m.own s').m7 t none).new ⟨a6,b.es.take 0++[]⟩),m.w⟩ rfl k1 k2 (.ca (.one (.row s' (m.own.e8 s') a6 0 0 ad 0 ?_ h0 (Nat.le_refl _) (λ h=>by omega) λ b' j7=>⟨?_,.inl ⟨rfl,rfl⟩⟩))))
   ·show _<AH.e8 _ s'
    rw[XN];simp
   ·change AH.get _ s' _=some b' at j7
    rw[RC,if_pos ⟨rfl,rfl⟩]at j7;obtain rfl:(⟨a6,b.es.take 0++[]⟩:DR)=b':=by simpa using j7
    rfl
  ·have Be:ad=some ⟨g,0,none⟩:=by simpa using kr
   rw[hg]at bd;obtain ⟨hB,tv,e2,zo,u7⟩:=bd;rw[hh]at zo;obtain ⟨rfl,rfl⟩:arr=tv/\e'=e2:=by simpa using zo
   have Dl:news.length=ys.length*a6:=dm.len;have hbound:len*a6+news.length<=arr.size:=by
    have:(len+ys.length)*a6<=(0+cap)*a6:=zR _ (by omega)
    rw[Nat.add_mul]at this;omega
   have n7:=AgD ty tx e ex i hu Ad hi g 0 len cap (.slice Am ys.length jq) ys.length news m.w su ui arr e' hh (by rw[o7];omega) o.type;rw[o7,Nat.zero_add]at n7;generalize nc:(arr.toList.take (len*a6)++news++arr.toList.drop (len*a6+news.length)).toArray=o9 at n7;have du : ∀ p,o9[p]? = if p<len*a6 then arr[p]? else if p<len*a6+news.length then news[p-len*a6]? else arr[p]? := λ p=>by rw[<-nc];exact AfR arr (len*a6) news hbound p
   have pn:o9.size=arr.size:=by rw[<-nc];simp;omega
   obtain ⟨k1,k2⟩:=eV hm s' t b ⟨a6,b.es.take len++ys⟩ l9 (some g) (m.w.setRow g o9) (kJ hm hB o9) (by simp) (λ k _ ux=>setRow_other _ _ _ _ (λ e=>ux (e ▸ hg))) Ag (by simp) (λ g' jz=>by
    obtain rfl:g=g':=by simpa using jz
    refine ⟨hB,.inr hg,o9,e',setRow_heap _ _ _ _ _ _ hh,λ i' cs m8 j c hj => ?_⟩;show ∃ u,o9[i'*a6+j]? = some u/\_;by_cases w5:i'<len
    ·rw[List.getElem?_append_left (by omega),List.getElem?_take,if_pos w5]at m8
     have db:j<a6:=by rw[<-qm,<-nf cs (zM m8)];exact (zS hj).1
     obtain ⟨u,kz,fj⟩:=u7 i' cs m8 j c hj;refine ⟨u,?_,fj⟩;have:(i'+1)*a6<=len*a6:=zR _ w5
     rw[Nat.succ_mul]at this;rw[du,if_pos (by omega),<-kz,qm]
    ·rw[List.getElem?_append_right (by omega),de]at m8
     obtain ⟨u,kz,fj⟩:=dm.rel (i'-len) cs m8 j c hj;refine ⟨u,?_,fj⟩;have np:=(zS kz).1;have e1:i'*a6=len*a6+(i'-len)*a6:=by rw[<-Nat.add_mul];congr 1;omega
     rw[du,if_neg (by omega),if_pos (by omega),<-kz];congr 1;omega)
   exact OI (TK j9 (by rw[w4,wm,Be];exact n7)) (hK _ ⟨e9 m s' (some g),m.own.put s' (((m.own s').m7 t none).new ⟨a6,b.es.take len++ys⟩),m.w.setRow g o9⟩ rfl k1 k2 (rX h0 ui (setRow_heap _ _ _ _ _ _ hh) (by rw[pn];simpa using Ku)))
 ·have zn:cap<len+ys.length:=by omega
  obtain ⟨ck,Ii,hold,Lz⟩ : ∃ ck:List Value,ck.length=len*a6/\(Builtin.firstCells i.size len (.slice ad len cap)).run P m.w.drew = .ok ck.toArray m.w.drew/\(∀ i' cs,(b.es.take len)[i']? = some cs -> ∀ j c,cs[j]? = some c -> ∃ u,ck[i'*a6+j]? = some u/\CC B S m c u):=by
   rcases bn with ⟨gk,bh⟩|⟨g,arr,e',hg,kr,hh,Ku⟩
   ·subst gk
    refine ⟨[],by simp,?_,λ i' cs m8=>by simp at m8⟩;cases ad with
    | none=>exact run_firstCells_none m.w.drew i.size 0 0 cap
    | some Cx=>exact run_firstCells_some m.w.drew i.size 0 Cx 0 cap [] (by simp) (λ j v hv=>by simp at hv)
   ·have Be:ad=some ⟨g,0,none⟩:=by simpa using kr
    rw[hg]at bd;obtain ⟨hB,tv,e2,zo,u7⟩:=bd;rw[hh]at zo;obtain ⟨rfl,rfl⟩:arr=tv/\e'=e2:=by simpa using zo
    have m5:len*a6<=arr.size:=by
     have:len*a6<=(0+cap)*a6:=zR _ (by omega)
     omega
    refine ⟨arr.toList.take (len*a6),by simp;omega,?_,λ i' cs m8 j c hj => ?_⟩
    ·rw[Be]
     refine run_firstCells_some m.w.drew i.size len ⟨g,0,none⟩ len cap _ (by rw[o7];simp;omega) (λ j v hv => ?_);rw[List.getElem?_take]at hv;split at hv
     ·rw[G0,XG (w:=m.w.drew) (show m.w.heap[g]? = _ from hh)]
      simpa using hv
     ·cases hv
    ·rw[List.getElem?_take]at m8
     split at m8
     ·rename_i w5
      have db:j<a6:=by rw[<-qm,<-nf cs (zM m8)];exact (zS hj).1
      obtain ⟨u,kz,fj⟩:=u7 i' cs m8 j c hj;refine ⟨u,?_,fj⟩;have:(i'+1)*a6<=len*a6:=zR _ w5
      rw[Nat.succ_mul]at this;rw[List.getElem?_take,if_pos (by omega),<-kz,qm];simp
     ·cases m8
  have n7:=run_append_grow_src (P:=P) m.w ty tx o.type e i z hu hi cj ad len cap ck hold (.slice Am ys.length jq) ys.length news su zn (by omega) (growslice_fits zn (by rw[ri];exact gl));have Dl:news.length=ys.length*a6:=dm.len;have x9:len+ys.length<=grownCap m.w (len+ys.length) cap e:=grownCap_ge _ _ _ _;generalize Fq:grownCap m.w (len+ys.length) cap e=gc at n7 x9;have iu:=Td hm (.cells ((ck++news).toArray++Builtin.zeroCells z.cells (gc-(len+ys.length))) e);have fu:(m.w.drew.alloc (.cells ((ck++news).toArray++Builtin.zeroCells z.cells (gc-(len+ys.length))) e)).heap[m.w.heap.size]? = some (.cells ((ck++news).toArray++Builtin.zeroCells z.cells (gc-(len+ys.length))) e (0,0)):=heap_alloc_new m.w.drew _;obtain ⟨k1,k2⟩:=eV hm s' t b ⟨a6,b.es.take len++ys⟩ l9 (some m.w.heap.size) _ iu (by simp) (λ k hk _=>Below.heap_alloc m.w.drew _ k hk) Ag (by simp) (λ g' jz=>by
   obtain rfl:m.w.heap.size=g':=by simpa using jz
   refine ⟨hm.size,.inl (Nat.le_refl _),_,e,fu,λ i' cs m8 j c hj => ?_⟩;obtain ⟨u,kz,fj⟩:=Agy de Ii (λ q hq=>by rw[<-qm];exact nf q (List.mem_of_mem_take hq)) Lz dm.rel i' cs m8 j c hj;refine ⟨u,?_,fj⟩;rw[Aei _ _ _ _ _ (by have:=(zS kz).1;simpa using this)];exact kz)
  refine OI (TK j9 (by rw[w4,wm];exact n7)) (hK _ ⟨e9 m s' (some m.w.heap.size),m.own.put s' (((m.own s').m7 t none).new ⟨a6,b.es.take len++ys⟩),_⟩ rfl k1 k2 (rX h0 x9 fu ?_));have Ah:(Builtin.zeroCells z.cells (gc-(len+ys.length))).size=(gc-(len+ys.length))*a6:=by simp [Builtin.zeroCells,gd]
  rw[Array.size_append,Ah];simp only[List.size_toArray,List.length_append,Ii,Dl];rw[<-Nat.add_mul,<-Nat.add_mul];exact zR _ (by omega)
theorem Vn (hm:BP B S w0 m) (hs:CM B S m ρ a.eval) {s a6 bytes:Nat} {x' y':AP} (h:BD P num o.op (.app s a6 bytes x' y')=true) {ys:List (List AV)} (hy:EP m.own (ρ y')=some ys) (hz : ∀ e∈ys,e.length=a6) (hx:ρ x' = .nil)
  (gl:ys.length*bytes<=EK) (Cy:ys.length<=9223372036854775807) :
  CQ B S w0 P o a m (.ct (.row s (m.own.e8 s) a6 0 ys.length) (m.own.put s ((m.own s).new ⟨a6,ys⟩))):=by
 obtain ⟨x,y,ty,e,i,z,tx,ex,j9,h1,h2,hu,hi,o7,ri,cj,gd,k8,Ad⟩:=qH h;have h0:0<a6:=Nat.pos_of_ne_zero k8;have w4:=PU (hx ▸ hs x x' h1);obtain ⟨Am,jq,news,wm,dm⟩:=cD hm (hs y y' h2) hy hz h0;have su:Src P i.size tx (.slice Am ys.length jq) ys.length news m.w:=by rw[o7];exact dm.src h0 hz Ad jq
 intro K Q hK;by_cases sz:ys=[]
 ·subst sz
  have Ce:news=[]:=List.eq_nil_of_length_eq_zero (by simpa using dm.len);subst Ce;have n7:=uF ty tx e ex i hu Ad hi none 0 (.slice Am 0 jq) m.w (by simpa using su) o.type;obtain ⟨k1,k2⟩:=xB hm s a6;refine OI (TK j9 (by rw[w4,wm];simpa using n7)) (hK _ ⟨e9 m s none,m.own.put s ((m.own s).new ⟨a6,[]⟩),m.w⟩ rfl k1 k2 (.ca (.one (.row s (m.own.e8 s) a6 0 0 none 0 ?_ h0 (Nat.le_refl _) (λ h=>by omega) λ b' j7=>⟨?_,.inl ⟨rfl,rfl⟩⟩))))
  ·show _<AH.e8 _ s
   rw[KN];simp
  ·change AH.get _ s _=some b' at j7
   rw[FS,if_pos ⟨rfl,rfl⟩]at j7;obtain rfl:(⟨a6,[]⟩:DR)=b':=by simpa using j7
   rfl
 ·have z9:0<ys.length:=List.length_pos_iff.2 sz
  have n7:=run_append_grow_src (P:=P) m.w ty tx o.type e i z hu hi cj none 0 0 [] (run_firstCells_none m.w.drew i.size 0 0 0) (.slice Am ys.length jq) ys.length news su (by omega) (by omega) (growslice_fits (by omega) (by rw[ri,Nat.zero_add];exact gl));simp only[Nat.zero_add,List.nil_append]at n7;have Dl:news.length=ys.length*a6:=dm.len;have x9:ys.length<=grownCap m.w ys.length 0 e:=grownCap_ge _ _ _ _;generalize Fq:grownCap m.w ys.length 0 e=gc at n7 x9;have hd:Below m.w.heap.size m.w m.w.drew:=(Below.refl _ _).drew;obtain ⟨gq,Bn⟩:=grow hm hd;obtain ⟨k1,k2⟩:=W7 gq s ⟨a6,ys⟩ (news.toArray++Builtin.zeroCells z.cells (gc-ys.length)) e hz (λ i' cs m8 j c hj=>by
   obtain ⟨u,kz,fj⟩:=dm.rel i' cs m8 j c hj;refine ⟨u,?_,Bn.cc fj⟩;have np:=(zS kz).1;show (news.toArray++Builtin.zeroCells z.cells (gc-ys.length))[i'*a6+j]? = some u;rw[Array.getElem?_append_left (by simpa using np)];simpa using kz)
  have Ah:(Builtin.zeroCells z.cells (gc-ys.length)).size=(gc-ys.length)*a6:=by simp [Builtin.zeroCells,gd]
  refine OI (TK j9 (by rw[w4,wm];exact n7)) (hK _ ⟨e9 ⟨m.ν,m.own,m.w.drew⟩ s (some m.w.drew.heap.size),m.own.put s ((m.own s).new ⟨a6,ys⟩),_⟩ rfl k1 (Bn.trans k2) (fD (m:=⟨m.ν,m.own,m.w.drew⟩) h0 x9 (heap_alloc_new m.w.drew _) ?_));rw[Array.size_append,Ah];simp only[List.size_toArray,Dl];rw[<-Nat.add_mul];exact zR _ (by omega)
theorem AgE (w:World) (t tx ty e:TypeId) (i:TypeInfo) (z:Value) (ht:P.underlying t=some (.slice e)) {k:IntKind} (hk:P.underlying tx=some (.int k)) (hi:P.info? e=some i) (hz:i.zero=some z) (k':IntKind) (n:Nat)
  (hn:0<n) (Cy:(n:Int)<=9223372036854775807) (Oa:n*i.bytes<=EK) (k8:i.size≠0) :
  (Builtin.append_ #[t,tx] ty #[.slice none 0 0,.int k' n]).run P w =
   .ok (.slice (some ⟨w.heap.size,0,none⟩) n (grownCap w n 0 e))
    (w.drew.alloc (.cells (Builtin.zeroCells z.cells n++Builtin.zeroCells z.cells (grownCap w n 0 e-n)) e)):=by
 have ui:=growslice_fits (old:=0) (need:=n) (bytes:=i.bytes) hn Oa;have h1 : ¬ (n:Int)<0:=by omega
 have h2 : ¬ n=0:=by omega
 have h3 : ¬ (9223372036854775807<(n:Int)):=by omega
 have h5 : ¬ (281474976710656<Builtin.nextslicecap n 0*i.bytes):=by omega
 have h6 : ¬ ((281474976710656:Int)<(n:Int)*(i.bytes:Int)):=by
  have Jh:n*i.bytes<=140737488355328:=Oa;have h7:=Int.ofNat_le.2 Jh;rw[Int.natCast_mul]at h7;omega
 have hA : ∀ w':World,(asIntOf (.int k' n)).run P w' = .ok (k',(n:Int)) w':=λ w'=>rfl
 have e1:IntKind.i64.wrap (n:Int)=n:=by rw[IntKind.wrap_i64];omega
 generalize hw:IntKind.i64.wrap (n:Int)=q at e1;subst e1;simp [Builtin.append_,run_underlying ht,run_underlying hk,sizeOf,typeInfo,zeroValue,hi,hz,asInt,hA,hw,h1,h2,h3,h5,h6,k8,Question.forced,Builtin.firstCells,newRow,grownCap];intro h;rcases Nat.mul_eq_zero.1 h with h|h
 ·exact absurd h h2
 ·exact absurd h k8
theorem Vp (hm:BP B S w0 m) (hs:CM B S m ρ a.eval) {s a6 bytes:Nat} {x' y':AP} (h:BD P num o.op (.oa s a6 bytes x' y')=true) (hx:ρ x' = .nil) {k':IntKind} {n:Int} (hy:ρ y' = .int k' n)
  (hn:0<n) (gl:n*bytes<=EK) (Cy:n<=9223372036854775807) :
  CQ B S w0 P o a m (.new s ⟨a6,[]⟩ (λ t => .row s t a6 0 n.toNat)):=by
 obtain ⟨x,y,ty,e,i,z,tx,k,j9,h1,h2,hu,hi,o7,ri,cj,gd,k8,Ad⟩:=AeS h;have h0:0<a6:=Nat.pos_of_ne_zero k8;have w4:=PU (hx ▸ hs x x' h1);have hey:=HE (hy ▸ hs y y' h2);obtain ⟨q,rfl⟩ : ∃ q:Nat,n=q:=⟨n.toNat,by omega⟩;simp only[Int.toNat_natCast];intro K Q hK;have n7:=AgE (P:=P) m.w ty tx o.type e i z hu Ad hi cj k' q (by omega) Cy (by
  rw[ri];rw[<-Int.natCast_mul]at gl;exact Int.ofNat_le.1 gl) (by rw[o7];exact k8)
 have x9:q<=grownCap m.w q 0 e:=grownCap_ge _ _ _ _;generalize Fq:grownCap m.w q 0 e=gc at n7 x9;have hd:Below m.w.heap.size m.w m.w.drew:=(Below.refl _ _).drew;obtain ⟨gq,Bn⟩:=grow hm hd;obtain ⟨k1,k2⟩:=W7 gq s ⟨a6,[]⟩ (Builtin.zeroCells z.cells q++Builtin.zeroCells z.cells (gc-q)) e (by simp) (λ i' cs m8 j c hj=>by simp at m8);have Ah : ∀ n,(Builtin.zeroCells z.cells n).size=n*a6:=λ n=>by simp [Builtin.zeroCells,gd]
 refine OI (TK j9 (by rw[w4,hey];exact n7)) (hK _ ⟨e9 ⟨m.ν,m.own,m.w.drew⟩ s (some m.w.drew.heap.size),m.own.put s ((m.own s).new ⟨a6,[]⟩),_⟩ rfl k1 (Bn.trans k2) (fD (m:=⟨m.ν,m.own,m.w.drew⟩) h0 x9 (heap_alloc_new m.w.drew _) ?_));rw[Array.size_append,Ah,Ah,<-Nat.add_mul];exact zR _ (by omega)
end
end Go.b8

namespace Go.b8
open Go.RowKit
section
variable {B:Nat} {S:Nat->Prop} {w0:World} {m:M}
variable {P:Program} {num:Nat->Nat} {o:Oper} {a:Act} {ρ:AP->AV}
structure GM (P:Program) (num:Nat->Nat) (C:Cl):Prop where
 ua : ∀ (f:Nat) (vs:List AV) (r:AV),C.pure f vs=some r -> ∀ (us:Array Value) (w:World),(callFunc (num f) us).run P w = .ok (.enter (num f) us) w
 oy : ∀ (f:Nat) (vs:List AV) (own:AH) (r:AV × AH),C.df f vs own=some r -> ∀ (us:Array Value) (w:World),(callFunc (num f) us).run P w = .ok (.enter (num f) us) w
 pure : ∀ (f:Nat) (vs:List AV) (r:AV),C.pure f vs=some r -> ∀ (S:Nat->Prop) (w:World) (us:List Value),vs.length=us.length->(∀ (j:Nat) (c:AV) (v:Value),vs[j]? = some c->us[j]? = some v->CA w.heap.size S ⟨λ_ _=>none,AH.emp,w⟩ c v) ->
  Calls P (num f) us.toArray w λ e w' => ∃ u,e = .returned u/\Below w.heap.size w w'/\CV w.heap.size S ⟨λ_ _=>none,AH.emp,w'⟩ r u/\A2 r
 df : ∀ (f:Nat) (vs:List AV) (own:AH) (r:AV) (k6:AH),C.df f vs own=some (r,k6) -> ∀ (B:Nat) (S:Nat->Prop) (w0:World) (m:M) (us:List Value),m.own=own->BP B S w0 m->vs.length=us.length->(∀ (j:Nat) (c:AV) (v:Value),vs[j]? = some c->us[j]? = some v->CV B S m c v) ->
  Calls P (num f) us.toArray m.w λ e w' => ∃ u m',e = .returned u/\m'.w=w'/\m'.own=k6/\BP B S w0 m'/\DG B S m m'/\CV B S m' r u
 num:C.num=num
end
end Go.b8
