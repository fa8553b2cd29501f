/-
  Each operation of the model does what the abstract machine says of it (all but calls).
-/
import Derived.Test.YtcoldcgafbbjoaaGreatB2
import Derived.Laws.StructEq
import Derived.ChangeKeysEq
import Derived.Laws.Slices
set_option linter.unusedSimpArgs false
set_option linter.unusedVariables false
set_option linter.unnecessarySimpa false
namespace Go.g6
open Go.RowKit
def BU.m8:BU->AH->AH
 | .val _,o=>o
 | .new s b _,o=>o.put s ((o s).new b)
 | .vh s b _,o=>o.put s ((o s).new b)
 | .dp _ o',_=>o'
 | .Bo s _ o',o=>o'.put s (o s)
 | .v7 s x,o=>o.put s x
 | .uo s x _,o=>o.put s x
def BU.valOf:BU->AH->AV
 | .val v,_=>v
 | .new s _ v,o=>v (o.j6 s)
 | .vh s _ v,o=>v (o.j6 s)
 | .dp v _,_=>v
 | .Bo _ v _,_=>v
 | .v7 _ _,_ => .g9 []
 | .uo _ _ v,_=>v
section
variable {B:Nat} {S:Nat->Prop} {w0:World} {m:M}
theorem HQ {k:IntKind} {n:Int} {v:Value} (h:CV B S m (.int k n) v):v = .int k n:=by
 cases h with
 | ca h=>cases h with
  | one h=>cases h with
   | rd h=>cases h;rfl
theorem Q3 {b:Bool} {v:Value} (h:CV B S m (.bool b) v):v = .bool b:=by
 cases h with
 | ca h=>cases h with
  | one h=>cases h with
   | rd h=>cases h;rfl
theorem Vt {cs:List AV} {v:Value} (h:CV B S m (.agg cs) v) : ∃ vs:List Value,v = .agg vs.toArray/\CL B S m cs vs:=by
 cases h with
 | ca h=>cases h with
  | one h=>cases h with
   | rd h=>cases h
  | agg _ vs h=>exact ⟨vs,rfl,h⟩
theorem cB {cs:List AV} {v:Value} (h:CV B S m (.g9 cs) v) : ∃ vs:List Value,v = .tuple vs.toArray/\cs.length=vs.length /\ ∀ (j:Nat) (c:AV) (u:Value),cs[j]? = some c->vs[j]? = some u->CA B S m c u:=by
 cases h with
 | ca h=>cases h with
  | one h=>cases h with
   | rd h=>cases h
 | g9 _ vs hl h=>exact ⟨vs,rfl,hl,h⟩
theorem O0 (k:IntKind) (n:Int):CV B S m (.int k n) (.int k n):= .ca (.one (.rd (.int k n)))
theorem YY (b:Bool):CV B S m (.bool b) (.bool b):= .ca (.one (.rd (.bool b)))
theorem rL:CV B S m (.g9 []) undef := .g9 [] [] rfl (λ j c v h=>by simp at h)
theorem X2 {a:AV} {cs:List AV} {v:Value} (h:CV B S m a v) (hc:cellsOf a=some cs):CL B S m cs v.cells.toList:=by
 cases h with
 | any v=>simp [cellsOf]at hc
 | g9=>simp [cellsOf]at hc
 | ca h=>cases h with
  | agg fr vs h =>
   obtain rfl:fr=cs:=by simpa [cellsOf] using hc
   simpa [Value.cells] using h
  | fn=>simp [cellsOf]at hc
  | wg=>simp [cellsOf]at hc
  | one h =>
   have h1:v.cells.toList=[v]:=by
    cases h with
    | rd h=>cases h<;>rfl
    | _=>rfl
   have h2:cs=[a]:=by
    cases h with
    | rd h=>cases h<;>simp [cellsOf]at hc<;>exact hc.symm
    | _=>simp [cellsOf]at hc;exact hc.symm
   rw[h1,h2];refine ⟨rfl,λ j c u hj hu => ?_⟩;cases j with
   | zero=>simp at hj hu;subst hj hu;exact h
   | succ j=>simp at hj
theorem Rp {cs:List AV} {vs:List Value} (h:CL B S m cs vs) : ∀ v∈vs,v.oneCell'=true:=by
 intro v hv;obtain ⟨j,hj,rfl⟩:=List.getElem_of_mem hv;have Dx:j<cs.length:=by rw[h.1];exact hj
 exact (h.2 j cs[j] vs[j] (zE Dx) (zE hj)).one
theorem Rq {cs:List AV} {vs:List Value} (h:CL B S m cs vs) (off n:Nat):CL B S m ((cs.drop off).take n) ((vs.drop off).take n):=by
 refine ⟨by simp [h.1],λ j c v hj hv => ?_⟩;rw[List.getElem?_take]at hj hv;split at hj
 ·rename_i o7
  rw[if_pos o7]at hv;rw[List.getElem?_drop]at hj hv;exact h.2 _ c v hj hv
 ·cases hj
theorem nL {v:Value} {a:AV} (h:YE v a=true):CC B S m a v:=by
 unfold YE at h;split at h
 ·simp only[Bool.and_eq_true,beq_iff_eq]at h
  obtain ⟨rfl,rfl⟩:=h;exact .rd (.int _ _)
 ·obtain rfl:_=_:=by simpa using h
  exact .rd (.bool _)
 ·exact .nil
 ·rename_i s s'
  obtain rfl:s=s':=by
   have h':s.data.toList=s'.data.toList:=by simpa using h
   obtain ⟨⟨l⟩⟩:=s;obtain ⟨⟨l'⟩⟩:=s';simp only at h';rw[h']
  exact .rd (.str _)
 ·exact .rd .my
 ·cases h
theorem S3 : ∀ {vs:List Value} {cs:List AV},OV vs cs=true->CL B S m cs vs
 | [],[],_=>⟨rfl,λ j c v h=>by simp at h⟩
 | v::r,c::l,h=>by
  simp only[OV,Bool.and_eq_true]at h;have ih:=S3 (vs:=r) (cs:=l) h.2;refine ⟨by simp [ih.1],λ j c' v' hj hv => ?_⟩;cases j with
  | zero=>simp at hj hv;subst hj hv;exact nL h.1
  | succ j=>exact ih.2 j c' v' (by simpa using hj) (by simpa using hv)
 | [],_::_,h=>by simp [OV]at h
 | _::_,[],h=>by simp [OV]at h
theorem Xf {v:Value} {a:AV} (h:cT v a=true):CV B S m a v:=by
 unfold cT at h;split at h
 ·rename_i cs l
  have:=S3 (B:=B) (S:=S) (m:=m) h
  exact .ca (by simpa using CA.agg l cs.toList this)
 ·exact .ca (.one (nL h))
def CP (B:Nat) (S:Nat->Prop) (m:M) (ρ:AP->AV) (e:Operand->Value):Prop := ∀ x y,BZ x y=true->CV B S m (ρ y) (e x)
theorem Agc {T:Nat->AV} {a:Act} {ρ:AP->AV} (hρt : ∀ n,ρ (.t n)=T n) (Qm : ∀ v,ρ (.c v)=v) (h : ∀ i,CV B S m (T i) (a.tmps.getD i undef)):CP B S m ρ a.eval:=by
 intro x y oi;unfold BZ at oi;split at oi
 ·obtain rfl:_=_:=by simpa using oi
  rw[hρt];exact h _
 ·rw[Qm]
  exact Xf oi
 ·obtain rfl:_=_:=by simpa using oi
  rw[Qm];exact .ca (.fn _ _ _ [] [] (λ_=>rfl) ⟨rfl,λ j c v h=>by simp at h⟩)
 ·cases oi
variable {P:Program} {num:Nat->Nat} {o:Oper} {a:Act} {ρ:AP->AV} {K:Act->World->Prop} {Q:Exit->Act->World->Prop}
theorem OH {w w':World} {u:Value} (h:(execOp a.eval o).run P w = .ok (.value u) w') (hk:K (a.put o.dst u) w'):o.wp P a w K Q:=by
 unfold Oper.wp;rw[h];exact hk
theorem AhI {w w':World} (h:(execOp a.eval o).run P w = .ok .skip w') (hk:K (a.put o.dst undef) w'):o.wp P a w K Q:=by
 unfold Oper.wp;rw[h];exact hk
def CU (B:Nat) (S:Nat->Prop) (w0:World) (P:Program) (o:Oper) (a:Act) (m:M) (E:BU):Prop :=
 ∀ (K:Act->World->Prop) (Q:Exit->Act->World->Prop),(∀ u m',m'.own=E.m8 m.own->BP B S w0 m'->DM B S m m'->CV B S m' (E.valOf m.own) u->K (a.put o.dst u) m'.w)->o.wp P a m.w K Q
theorem EL (hm:BP B S w0 m) {v:AV} {u:Value} (h:(execOp a.eval o).run P m.w = .ok (.value u) m.w) (hc:CV B S m v u):CU B S w0 P o a m (.val v) :=
 λ K Q hK=>OH h (hK u m rfl hm (DM.refl m) hc)
theorem Yb (hm:BP B S w0 m) (hs:CP B S m ρ a.eval) {y:AP} (h:BI P num o.op (.q6 y)=true):CU B S w0 P o a m (.val (ρ y)):=by
 obtain ⟨x,hx,he⟩:=Aey h;refine EL hm (u:=a.eval x) ?_ (hs x y he);rcases hx with hx|hx<;>simp [execOp,hx]
theorem Yi (hm:BP B S w0 m) {s z:Nat} (h:BI P num o.op (.ak s z)=true):CU B S w0 P o a m (.vh s ⟨z,[]⟩ (λ t => .row s t z 0 0)):=by
 obtain ⟨hx,hz⟩:=AeG h;intro K Q hK;obtain ⟨h1,h2⟩:=wI hm s z;refine OH (u := .slice none 0 0) (w':=m.w) ?_ (hK _ ⟨j7 m s none,m.own.put s ((m.own s).new ⟨z,[]⟩),m.w⟩ rfl h1 h2 ?_)
 ·rcases hx with hx|hx<;>simp [execOp,hx,Act.eval]
 ·refine .ca (.one (.row s (m.own.j6 s) z 0 0 none 0 ?_ (by omega) (Nat.le_refl _) (λ h=>by omega) λ b hb => ?_))
  ·show _<AH.j6 _ s
   rw[LB];simp
  ·change AH.get _ s _=some b at hb
   rw[F7,if_pos ⟨rfl,rfl⟩]at hb;obtain rfl:(⟨z,[]⟩:D7)=b:=by simpa using hb
   exact ⟨rfl,.inl ⟨rfl,rfl⟩⟩
theorem mL (hm:BP B S w0 m) (hs:CP B S m ρ a.eval) {c' a' b':AP} (h:BI P num o.op (.pick c' a' b')=true) {t:Bool} (hc:ρ c' = .bool t) :
  CU B S w0 P o a m (.val (if t then ρ a' else ρ b')):=by
 obtain ⟨c,x,y,m9,h1,h2,h3⟩:=AeA h;have aj:=Q3 (hc ▸ hs c c' h1);refine EL hm (u:=if t then a.eval x else a.eval y) ?_ ?_
 ·cases t<;>simp [execOp,m9,aj,asBool]
 ·cases t
  ·exact hs y b' h3
  ·exact hs x a' h2
theorem Af7 (f:BinOp) (t:TypeId) (k k':IntKind) (x y:Int) (v:AV) (h:DN f k x k' y=some v) (w:World) : ∃ u,(binOp f t (.int k x) (.int k' y)).run P w = .ok u w/\((∃ n,v = .int k n/\u = .int k n) \/ ∃ b,v = .bool b/\u = .bool b):=by
 cases f<;>simp only[DN]at h;case shl =>
  split at h
  ·cases h
  ·rename_i hy;simp at h;subst h
   exact ⟨_,by simp [binOp,Op.shift,hy],.inl ⟨_,rfl,rfl⟩⟩
 case shr =>
  split at h
  ·cases h
  ·rename_i hy;simp at h;subst h
   exact ⟨_,by simp [binOp,Op.shift,hy],.inl ⟨_,rfl,rfl⟩⟩
 case quo =>
  split at h
  ·rename_i hy;obtain ⟨rfl,hy⟩:=hy;simp at h;subst h
   exact ⟨_,by simp [binOp,Op.intDiv,hy],.inl ⟨_,rfl,rfl⟩⟩
  ·cases h
 case rem =>
  split at h
  ·rename_i hy;obtain ⟨rfl,hy⟩:=hy;simp at h;subst h
   exact ⟨_,by simp [binOp,Op.intDiv,hy],.inl ⟨_,rfl,rfl⟩⟩
  ·cases h
 case and|or|xor|andNot =>
  all_goals
   split at h
   ·rename_i hk;subst hk;obtain rfl:=Option.some.inj h
    exact ⟨_,by simp only[binOp,ne_eq,not_true_eq_false,if_false];rfl,.inl ⟨_,rfl,rfl⟩⟩
   ·cases h
 case add|sub|mul =>
  all_goals
   split at h
   ·rename_i hk;subst hk;obtain rfl:=Option.some.inj h
    exact ⟨_,by simp [binOp,Op.intArith],.inl ⟨_,rfl,rfl⟩⟩
   ·cases h
 all_goals
  split at h
  ·rename_i hk;subst hk;obtain rfl:=Option.some.inj h
   exact ⟨_,by simp [binOp,Op.intCmp],.inr ⟨_,rfl,rfl⟩⟩
  ·cases h
theorem Af1 (f:BinOp) (t:TypeId) (x y:Operand) (k k':IntKind) (n n':Int) (w:World):(eqGuard f t x y (.int k n) (.int k' n')).run P w = .ok () w:=by
 unfold eqGuard;cases f<;>simp
theorem Af2 (f:BinOp) (t:TypeId) (x y:Operand) (b b':Bool) (w:World):(eqGuard f t x y (.bool b) (.bool b')).run P w = .ok () w:=by
 unfold eqGuard;cases f<;>simp
theorem Va (hm:BP B S w0 m) (hs:CP B S m ρ a.eval) {f:BinOp} {x' y':AP} (h:BI P num o.op (.bin f x' y')=true) {k k':IntKind} {n n':Int} {v:AV} (hx:ρ x' = .int k n) (hy:ρ y' = .int k' n') (hv:DN f k n k' n'=some v) :
  CU B S w0 P o a m (.val v):=by
 obtain ⟨t,x,y,u,m9,h1,h2⟩:=Aeg h;have ex:=HQ (hx ▸ hs x x' h1);have ey:=HQ (hy ▸ hs y y' h2);obtain ⟨r,hr,df⟩:=Af7 (P:=P) f t k k' n n' v hv m.w;refine EL hm (u:=r) ?_ ?_
 ·simp [execOp,m9,ex,ey,Af1,hr]
 ·rcases df with ⟨q,rfl,rfl⟩|⟨q,rfl,rfl⟩
  ·exact O0 _ _
  ·exact YY _
theorem Af4 (t:TypeId) (b b':Bool) (hu:P.underlying t=some .bool) (w:World):(Op.equal t (.bool b) (.bool b')).run P w = .ok (b == b') w:=by
 have h : ∀ d:Nat,(Op.equalIn (d+1) t (.bool b) (.bool b')).run P w = .ok (b == b') w:=λ d=>by
  unfold Op.equalIn;rw[Sem.run_bind,run_underlying hu];rfl
 exact h 9999
theorem Uz (hm:BP B S w0 m) (hs:CP B S m ρ a.eval) {ne:Bool} {x' y':AP} (h:BI P num o.op (.beq ne x' y')=true) {b b':Bool} (hx:ρ x' = .bool b) (hy:ρ y' = .bool b') :
  CU B S w0 P o a m (.val (.bool (if ne then !(b == b') else b == b'))):=by
 obtain ⟨t,x,y,u,m9,hu,h1,h2⟩:=Aef h;have ex:=Q3 (hx ▸ hs x x' h1);have ey:=Q3 (hy ▸ hs y y' h2);refine EL hm (u := .bool (if ne then !(b == b') else b == b')) ?_ (YY _);cases ne<;>simp [execOp,m9,ex,ey,Af2,binOp,Af4 t b b' hu]
theorem Yh (hm:BP B S w0 m) (hs:CP B S m ρ a.eval) {f:UnOp} {x':AP} (h:BI P num o.op (.un f x')=true) {v:AV} (hv:QF f (ρ x')=some v):CU B S w0 P o a m (.val v):=by
 obtain ⟨t,x,m9,h1⟩:=AeF h;have hx:=hs x x' h1;unfold QF at hv;split at hv
 ·rename_i k n hk
  have ex:=HQ (hk ▸ hx);split at hv
  ·obtain rfl:_=v:=by simpa using hv
   exact EL hm (by simp [execOp,m9,ex,Op.unary,Op.intArith]) (O0 _ _)
  ·obtain rfl:_=v:=by simpa using hv
   exact EL hm (by simp only[execOp,m9,ex,Op.unary];rfl) (O0 _ _)
  ·cases hv
 ·rename_i b hk
  have ex:=Q3 (hk ▸ hx);split at hv
  ·obtain rfl:_=v:=by simpa using hv
   exact EL hm (by simp [execOp,m9,ex,Op.unary]) (YY _)
  ·cases hv
 ·cases hv
theorem Vm (hm:BP B S w0 m) (hs:CP B S m ρ a.eval) {k:IntKind} {x':AP} (h:BI P num o.op (.conv k x')=true) {k':IntKind} {n:Int} (hx:ρ x' = .int k' n):CU B S w0 P o a m (.val (.int k (k.wrap n))):=by
 obtain ⟨s,d,x,ds,m9,Cm,hd,h1⟩:=Aep h;have ex:=HQ (hx ▸ hs x x' h1);refine EL hm (u := .int k (k.wrap n)) ?_ (O0 _ _);simp [execOp,m9,ex,convert,run_underlying Cm,run_underlying hd,Conv.intToInt]
theorem Af5 (t:TypeId) (a:Option Addr) (n c:Nat) {e:TypeId} (hu:P.underlying t=some (.slice e)) (w:World):(Op.equal t (.slice a n c) (.slice none 0 0)).run P w = .ok a.isNone w:=by
 have h : ∀ d:Nat,(Op.equalIn (d+1) t (.slice a n c) (.slice none 0 0)).run P w = .ok a.isNone w:=λ d=>by
  unfold Op.equalIn;rw[Sem.run_bind,run_underlying hu];cases a<;>rfl
 exact h 9999
theorem Af3 (f:BinOp) (t:TypeId) (x y:Operand) (a b:Option Addr) (n c n' c':Nat) (w:World):(eqGuard f t x y (.slice a n c) (.slice b n' c')).run P w = .ok () w:=by
 unfold eqGuard;cases f<;>simp
theorem X9 (hm:BP B S w0 m) (hs:CP B S m ρ a.eval) {ne:Bool} {x':AP} (h:BI P num o.op (.ug ne x')=true) {b:Bool} (hx : ∀ v,CV B S m (ρ x') v -> ∃ ad n c,v = .slice ad n c/\ad.isNone=b) :
  CU B S w0 P o a m (.val (.bool (xor b ne))):=by
 obtain ⟨t,x,u,e,m9,hu,h1⟩:=Aes h;obtain ⟨ad,n,c,ex,hb⟩:=hx _ (hs x x' h1);refine EL hm (u := .bool (xor b ne)) ?_ (YY _);have e0:a.eval (.const (.slice none 0 0)) = .slice none 0 0:=rfl;cases ne<;>cases b<;>simp [execOp,m9,ex,e0,Af3,binOp,Af5 t ad n c hu,hb]
theorem PM {v:Value} (h:CV B S m .nil v):v = .slice none 0 0:=by
 cases h with
 | ca h=>cases h with
  | one h=>cases h with
   | rd h=>cases h
   | nil=>rfl
theorem lS {b:Bool} {v:Value} (h:CV B S m (.dm (.bool b)) v) : ∃ ad c,v = .slice ad 0 c/\ad.isNone=b:=by
 cases h with
 | ca h=>cases h with
  | one h=>cases h with
   | rd h=>cases h with
    | emp b a cap h=>exact ⟨a,cap,rfl,h⟩
theorem Vx {l:Bool} {e:List AV} {es:List (List AV)} {v:Value} (h:CV B S m (.sl l (e::es)) v) : ∃ ad n c,v = .slice ad n c/\ad.isNone=false:=by
 cases h with
 | ca h=>cases h with
  | one h=>cases h with
   | rd h=>cases h with
    | sl=>exact ⟨_,_,_,rfl,rfl⟩
theorem Vw {s t z off n:Nat} {v:Value} (h:CV B S m (.row s t z off (n+1)) v) : ∃ ad n c,v = .slice ad n c/\ad.isNone=false:=by
 cases h with
 | ca h=>cases h with
  | one h=>cases h with
   | rd h=>cases h
   | row _ _ _ _ _ a cap _ _ _ ha=>exact ⟨_,_,_,rfl,by have:=ha (by omega);cases a<;>simp_all⟩
theorem Yd (hm:BP B S w0 m) (hs:CP B S m ρ a.eval) {tb:List Nat} {x':AP} (h:BI P num o.op (.iw tb x')=true) {k:IntKind} {n:Int} {v:Nat} (hx:ρ x' = .int k n) (h0:0<=n) (hv:tb[n.toNat]? = some v) :
  CU B S w0 P o a m (.val (.int .u8 v)):=by
 obtain ⟨t,s,i,m9,hu,rf,h1⟩:=AeC h;have ex:=HQ (hx ▸ hs i x' h1);have hb : ∃ b:UInt8,s[n.toNat]? = some b/\b.toNat=v:=by
  rw[<-rf,List.getElem?_map]at hv;cases hg:s.data.toList[n.toNat]? with
  | none=>simp [hg]at hv
  | some b =>
   simp only[hg,Option.map_some,Option.some.injEq]at hv;refine ⟨b,?_,hv⟩;have o7:n.toNat<s.size:=by
    have:=(zS hg).1
    simpa using this
   rw[getElem?_pos s n.toNat o7];congr 1;have:=(zS hg).2
   rw[<-this];rfl
 obtain ⟨b,qi,w9⟩:=hb;refine EL hm (u := .int .u8 v) ?_ (O0 _ _);have e0:a.eval (.const (.string s)) = .string s:=rfl;simp [execOp,m9,ex,e0,Instr.index,asIntOf,run_underlying hu,h0,qi,w9]
theorem Afn {x c:AV} {v:Value} (h:CV B S m x v) (hc:GS x=some c):CC B S m c v:=by
 cases h with
 | any=>simp [GS]at hc
 | g9=>simp [GS]at hc
 | ca h=>cases h with
  | agg=>simp [GS]at hc
  | fn=>simp [GS]at hc
  | wg=>simp [GS]at hc
  | one h =>
   have:c=x:=by
    cases h with
    | rd h=>cases h<;>simp [GS]at hc<;>exact hc.symm
    | _=>simp [GS]at hc;exact hc.symm
   subst this;exact h
theorem nK (hs:CP B S m ρ a.eval) : ∀ {xs:List Operand} {q9:List AP} {cs:List AV},ED xs q9=true->q9.mapM (λ x=>GS (ρ x))=some cs->CL B S m cs (xs.map a.eval)
 | [],[],cs,_,h=>by
  simp at h;subst h;exact ⟨rfl,λ j c v h=>by simp at h⟩
 | x::r,y::l,cs,h,hc=>by
  simp only[ED,Bool.and_eq_true]at h;simp only[List.mapM_cons,Option.bind_eq_bind,Option.pure_def]at hc;cases h1:GS (ρ y) with
  | none=>simp [h1]at hc
  | some c =>
   cases h2:l.mapM (λ x=>GS (ρ x)) with
   | none=>simp [h1,h2]at hc
   | some fr =>
    simp [h1,h2]at hc;subst hc;have ih:=nK hs h.2 h2;refine ⟨by simpa using ih.1,λ j c' v hj hv => ?_⟩;cases j with
    | zero =>
     simp at hj hv;subst hj hv;exact Afn (hs x y h.1) h1
    | succ j=>exact ih.2 j c' v (by simpa using hj) (by simpa using hv)
 | [],_::_,_,h,_=>by simp [ED]at h
 | _::_,[],_,h,_=>by simp [ED]at h
theorem Xz (hm:BP B S w0 m) (hs:CP B S m ρ a.eval) {p:Bool} {f:Nat} {q9:List AP} (h:BI P num o.op (.rj p f q9)=true) {cs:List AV} (hc:q9.mapM (λ x=>GS (ρ x))=some cs) :
  CU B S w0 P o a m (.val (.fn (p&&cs.isEmpty) f (num f) cs)):=by
 obtain ⟨first,xs,m9,rfl,he⟩:=Aex h;have u9:=nK hs he hc;have il:(xs.map a.eval)=(xs.toList.map a.eval).toArray:=by cases xs;simp
 refine EL hm (u := .func (.func (num f)) #[] (xs.toList.map a.eval).toArray) ?_ (.ca (.fn (p&&cs.isEmpty) f (num f) cs _ (λ h=>by simpa using (Bool.and_eq_true _ _ ▸ h:p=true/\cs.isEmpty=true).2) u9));simp [execOp,m9,Instr.makeFunc,il]
end
end Go.g6
namespace Go.g6
open Go.RowKit
section
variable {B:Nat} {S:Nat->Prop} {w0:World} {m:M}
variable {P:Program} {num:Nat->Nat} {o:Oper} {a:Act} {ρ:AP->AV}
theorem SX {cs:List AV} {vs:List Value} (h:CL B S m cs vs) {j:Nat} {c:AV} (hj:cs[j]? = some c) : ∃ u,vs[j]? = some u/\CC B S m c u:=by
 have o7:j<cs.length:=(zS hj).1;have xd:j<vs.length:=by rw[<-h.1];exact o7
 exact ⟨vs[j],zE xd,h.2 j c _ hj (zE xd)⟩
theorem Afc {s:Nat} {b:D7} {w':World} {g:Nat}:CV B S ⟨j7 m s (some g),m.own.put s ((m.own s).new b),w'⟩ (.ptr s (m.own.j6 s) 0 0) (.pointer (some ⟨g,0,none⟩)):=by
 refine .ca (.one (.ptr s (m.own.j6 s) 0 0 ⟨g,0,none⟩ ?_ λ b' n6=>⟨g,?_,by simp⟩))
 ·show _<AH.j6 _ s
  rw[LB];simp
 ·simp [j7]
theorem mJ (hm:BP B S w0 m) (s:Nat) (cs:List AV) (vs:Array Value) (e:TypeId) (hc:CL B S m cs vs.toList) (h:(execOp a.eval o).run P m.w = .ok (.value (.pointer (some ⟨m.w.heap.size,0,none⟩))) (m.w.alloc (.cells vs e))) :
  CU B S w0 P o a m (.new s ⟨cs.length,[cs]⟩ (λ t => .ptr s t 0 0)):=by
 intro K Q hK;obtain ⟨h1,h2⟩:=XG hm s ⟨cs.length,[cs]⟩ vs e (by simp) (λ i fr hi j c hj=>by
  cases i with
  | zero =>
   obtain rfl:cs=fr:=by simpa using hi
   obtain ⟨u,hu,ax⟩:=SX hc hj;exact ⟨u,by simpa using hu,ax⟩
  | succ i=>simp at hi)
 exact OH h (hK _ ⟨j7 m s (some m.w.heap.size),m.own.put s ((m.own s).new ⟨cs.length,[cs]⟩),m.w.alloc (.cells vs e)⟩ rfl h1 h2 Afc)
theorem Vb (hm:BP B S w0 m) (hs:CP B S m ρ a.eval) {s:Nat} {x':AP} (h:BI P num o.op (.box s x')=true) {cs:List AV} (hc:cellsOf (ρ x')=some cs) :
  CU B S w0 P o a m (.new s ⟨cs.length,[cs]⟩ (λ t => .ptr s t 0 0)):=by
 obtain ⟨t,x,m9,h1⟩:=Aeh h;exact mJ hm s cs (a.eval x).cells t (X2 (hs x x' h1) hc) (by simp [execOp,m9,Instr.box,newVar,newRow])
theorem Uv (hm:BP B S w0 m) {s:Nat} {z:List AV} (h:BI P num o.op (.alloc s z)=true):CU B S w0 P o a m (.new s ⟨z.length,[z]⟩ (λ t => .ptr s t 0 0)):=by
 obtain ⟨t,m9,h1⟩:=Aed h;obtain ⟨i,v,hi,hz,he⟩:=iV h1;exact mJ hm s z v.cells t (S3 he) (by simp [execOp,m9,Instr.alloc,zeroValue,typeInfo,hi,hz,newVar,newRow])
theorem dP (off:Nat) : ∀ (vs:List Value) (k:Nat) (cells:Array Value),off+k+vs.length<=cells.size ->
  ((vs.zipIdx k).foldl (λ cs (x:Value × Nat)=>cs.setIfInBounds (off+x.2) x.1) cells).toList=cells.toList.take (off+k)++vs++cells.toList.drop (off+k+vs.length)
 | [],k,cells,_=>by simp
 | v::r,k,cells,h=>by
  simp only[List.length_cons]at h;rw[List.zipIdx_cons,List.foldl_cons,dP off r (k+1) _ (by simp;omega)];simp only[Array.toList_setIfInBounds,List.length_cons];apply List.ext_getElem?;intro q;have e1:(cells.toList.set (off+k) v).drop (off+(k+1)+r.length)=cells.toList.drop (off+k+(r.length+1)):=by
   rw[show off+(k+1)+r.length=off+k+(r.length+1) by omega];exact List.drop_set_of_lt (by omega)
  have e2:(cells.toList.set (off+k) v).take (off+(k+1))=cells.toList.take (off+k)++[v]:=by
   rw[show off+(k+1)=off+k+1 by omega,List.take_succ_eq_append_getElem (by simp;omega)];simp [List.take_set_of_le]
  rw[e1,e2];simp
theorem dJ (place:Nat->Option (Nat × Nat)) (hs:CP B S m ρ a.eval) : ∀ (ps:List (Nat × Operand)) (fq:List (Nat × Nat × AP)) (cs fr:List AV) (vs:Array Value),RS place ps fq=true->CL B S m cs vs.toList ->
  fill cs (fq.map λ p=>(p.1,p.2.1,ρ p.2.2))=some fr -> ∃ dh,Instr.fill place vs (ps.map λ p=>(p.1,a.eval p.2))=some dh/\CL B S m fr dh.toList
 | [],[],cs,fr,vs,_,hc,hf=>by
  simp [fill]at hf;subst hf;exact ⟨vs,rfl,hc⟩
 | (i,x)::r,(off,n,y)::l,cs,fr,vs,hp,hc,hf=>by
  simp only[RS,Bool.and_eq_true,beq_iff_eq]at hp;obtain ⟨⟨Mf,Dz⟩,hp3⟩:=hp;simp only[List.map_cons,fill]at hf;cases hcell:cellsOf (ρ y) with
  | none=>simp [hcell]at hf
  | some us =>
   simp only[hcell]at hf;split at hf
   ·rename_i hn
    obtain ⟨hn1,Iz⟩:=hn;have ib:=X2 (hs x y Dz) hcell;have ag:(a.eval x).cells.size=n:=by rw[<-hn1,ib.1];simp
    have Cy:off+(a.eval x).cells.size<=vs.size:=by rw[ag];have:=hc.1;simp at this;omega
    have wu:=dP off (a.eval x).cells.toList 0 vs (by simpa using Cy);have Hl:Instr.fill place vs (((i,x)::r).map λ p=>(p.1,a.eval p.2))=Instr.fill place ((a.eval x).cells.zipIdx.foldl (λ cs (c,j)=>cs.setIfInBounds (off+j) c) vs) (r.map λ p=>(p.1,a.eval p.2)):=by
     simp only[List.map_cons,Instr.fill,Mf];rw[if_neg (by simp;omega)]
    rw[Hl];refine dJ place hs r l (splice cs off us) fr _ hp3 ?_ hf;have hz:((a.eval x).cells.zipIdx.foldl (λ cs (c,j)=>cs.setIfInBounds (off+j) c) vs).toList=vs.toList.take off++(a.eval x).cells.toList++vs.toList.drop (off+(a.eval x).cells.toList.length):=by
     rw[<-Array.foldl_toList];simpa using wu
    rw[hz];unfold splice;refine ⟨?_,λ j c v hj hv => ?_⟩
    ·have:=hc.1;have:=ib.1;simp at *;omega
    ·have ng:=hc.1
     have iz:=ib.1;simp only[Array.length_toList]at ng iz;rw[List.getElem?_append]at hj hv;simp only[List.length_append,List.length_take,Array.length_toList]at hj hv;rw[List.getElem?_append]at hj hv;simp only[List.length_take,Array.length_toList]at hj hv;have ni:min off cs.length=off:=by omega
     have jy:min off vs.size=off:=by omega
     rw[ni]at hj;rw[jy]at hv;rw[<-iz]at hv;split at hj
     ·rename_i h1
      rw[if_pos h1]at hv;split at hj
      ·rename_i h2
       rw[if_pos h2]at hv;rw[List.getElem?_take]at hj hv;rw[if_pos h2]at hj hv;exact hc.2 j c v hj hv
      ·rename_i h2
       rw[if_neg h2]at hv;exact ib.2 _ c v hj hv
     ·rename_i h1
      rw[if_neg h1]at hv;rw[List.getElem?_drop]at hj hv;exact hc.2 _ c v hj hv
   ·cases hf
 | [],_::_,_,_,_,hp,_,_=>by simp [RS]at hp
 | _::_,[],_,_,_,hp,_,_=>by simp [RS]at hp
theorem Vd (hm:BP B S w0 m) (hs:CP B S m ρ a.eval) {z:List AV} {fq:List (Nat × Nat × AP)} (h:BI P num o.op (.build z fq)=true) {cs:List AV} (hf:fill z (fq.map λ p=>(p.1,p.2.1,ρ p.2.2))=some cs) :
  CU B S w0 P o a m (.val (.agg cs)):=by
 obtain ⟨t,ps,m9,h1,h2⟩:=Aej h;obtain ⟨i,v,hi,hz,he⟩:=iV h1;have key : ∃ dh,P.built t (ps.map λ p=>(p.1,a.eval p.2)).toList=some dh/\CL B S m cs dh.toList:=by
  unfold bL at h2;unfold Program.built;split at h2
  ·rename_i fs hu
   split at h2
   ·rename_i places hp
    obtain ⟨dh,h3,h4⟩:=dJ _ hs ps.toList fq z cs v.cells h2 (S3 he) hf;refine ⟨dh,?_,h4⟩;simp only[hi,hu,hz,hp,Array.toList_map];exact h3
   ·cases h2
  ·rename_i n e hu
   split at h2
   ·rename_i ie Lr
    obtain ⟨dh,h3,h4⟩:=dJ _ hs ps.toList fq z cs v.cells h2 (S3 he) hf;refine ⟨dh,?_,h4⟩;simp only[hi,hu,hz,Lr,Array.toList_map];exact h3
   ·cases h2
  ·cases h2
 obtain ⟨dh,h3,h4⟩:=key;refine EL hm (u := .agg dh) ?_ (.ca (by simpa using CA.agg cs dh.toList h4));simp only[execOp,m9,Sem.run_bind];rw[run_build m.w t _ dh h3];rfl
theorem pG (size:Nat) (hs:CP B S m ρ a.eval) : ∀ (ps:List (Nat × Operand)) (fq:List AP) (k:Nat) (es:List (List AV)) (vs:Array Value),Q7 k ps fq=true->fq.mapM (λ x=>cellsOf (ρ x))=some es->(∀ e∈es,e.length=size)->vs.size=(k+fq.length)*size ->
  ∃ dh,Instr.fill (λ i=>some (i*size,size)) vs (ps.map λ p=>(p.1,a.eval p.2))=some dh/\dh.size=vs.size/\(∀ q,q<k*size->dh[q]? = vs[q]?) /\ ∀ i cs,es[i]? = some cs -> ∀ j c,cs[j]? = some c -> ∃ u,dh[(k+i)*size+j]? = some u/\CC B S m c u
 | [],[],k,es,vs,_,jv,_,_=>by
  simp at jv;subst jv;exact ⟨vs,rfl,rfl,λ_ _=>rfl,λ i cs hi=>by simp at hi⟩
 | (i,x)::r,y::l,k,es,vs,he,jv,hz,hv=>by
  simp only[Q7,Bool.and_eq_true,beq_iff_eq]at he;obtain ⟨⟨rfl,h1⟩,h2⟩:=he;simp only[List.mapM_cons,Option.bind_eq_bind,Option.pure_def]at jv;cases hcell:cellsOf (ρ y) with
  | none=>simp [hcell]at jv
  | some us =>
   cases fj:l.mapM (λ x=>cellsOf (ρ x)) with
   | none=>simp [hcell,fj]at jv
   | some es' =>
    simp [hcell,fj]at jv;subst jv;have ib:=X2 (hs x y h1) hcell;have Qg:us.length=size:=hz us (by simp);have ag:(a.eval x).cells.size=size:=by rw[<-Qg,ib.1];simp
    simp only[List.length_cons]at hv;have hle:i*size+size<=vs.size:=by rw[hv,show i+(l.length+1)=i+1+l.length by omega,Nat.add_mul,Nat.add_mul];omega
    have wu:=dP (i*size) (a.eval x).cells.toList 0 vs (by simp [ag];omega);generalize Hp:(a.eval x).cells.zipIdx.foldl (λ cs (c,j)=>cs.setIfInBounds (i*size+j) c) vs=El;have gb:El.toList=vs.toList.take (i*size)++(a.eval x).cells.toList++vs.toList.drop (i*size+size):=by
     rw[<-Hp,<-Array.foldl_toList];simpa [ag] using wu
    have Hi:El.size=vs.size:=by
     have:=congrArg List.length gb
     simp [ag]at this;omega
    obtain ⟨dh,h3,h4,h5,h6⟩:=pG size hs r l (i+1) es' El h2 fj (λ e he=>hz e (by simp [he])) (by rw[Hi,hv];congr 1;omega);refine ⟨dh,?_,h4.trans Hi,λ q hq => ?_,λ i' cs v9 j c hj => ?_⟩
    ·simp only[List.map_cons,Instr.fill]
     rw[if_neg (by simp [ag];omega),Hp];exact h3
    ·rw[h5 q (by rw[Nat.add_mul];omega)]
     have:El.toList[q]? = vs.toList[q]? := by
      rw[gb,List.append_assoc,List.getElem?_append_left (by simp;omega),List.getElem?_take,if_pos hq]
     simpa using this
    ·cases i' with
     | zero =>
      obtain rfl:us=cs:=by simpa using v9
      obtain ⟨u,hu,ax⟩:=SX ib hj;have ew:j<size:=by rw[<-Qg];exact (zS hj).1
      refine ⟨u,?_,ax⟩;rw[Nat.add_zero,h5 _ (by rw[Nat.add_mul];omega)];have:El.toList[i*size+j]? = some u:=by
       rw[gb,List.append_assoc,List.getElem?_append_right (by simp;omega)];simp only[List.length_take,Array.length_toList,show min (i*size) vs.size=i*size by omega,show i*size+j-i*size=j by omega];rw[List.getElem?_append_left (by simp [ag];omega)];exact hu
      simpa using this
     | succ i' =>
      obtain ⟨u,hu,ax⟩:=h6 i' cs (by simpa using v9) j c hj;exact ⟨u,by rw[show i+(i'+1)=i+1+i' by omega];exact hu,ax⟩
 | [],_::_,_,_,_,he,_,_,_=>by simp [Q7]at he
 | _::_,[],_,_,_,he,_,_,_=>by simp [Q7]at he
theorem fX {s z n cap:Nat} {es:List (List AV)} {w':World} {g:Nat} {arr:Array Value} {e:TypeId} (hz:0<z) (hn:n<=cap) (hg:w'.heap[g]? = some (.cells arr e (0,0))) (hc:cap*z<=arr.size) :
  CV B S ⟨j7 m s (some g),m.own.put s ((m.own s).new ⟨z,es⟩),w'⟩ (.row s (m.own.j6 s) z 0 n) (.slice (some ⟨g,0,none⟩) n cap):=by
 refine .ca (.one (.row s (m.own.j6 s) z 0 n _ cap ?_ hz hn (λ_=>rfl) λ b' n6=>⟨?_,.inr ⟨g,arr,e,?_,by simp,hg,by simpa using hc⟩⟩))
 ·show _<AH.j6 _ s
  rw[LB];simp
 ·change AH.get _ s _=some b' at n6
  rw[F7,if_pos ⟨rfl,rfl⟩]at n6;obtain rfl:(⟨z,es⟩:D7)=b':=by simpa using n6
  rfl
 ·simp [j7]
theorem mO (hm:BP B S w0 m) (s z n cap:Nat) (es:List (List AV)) (vs:Array Value) (e:TypeId) (ep:0<z) (hn:n<=cap) (ag:cap*z<=vs.size) (hz : ∀ x∈es,x.length=z)
  (hc : ∀ i cs,es[i]? = some cs -> ∀ j c,cs[j]? = some c -> ∃ u,vs[i*z+j]? = some u/\CC B S m c u)
  (h:(execOp a.eval o).run P m.w = .ok (.value (.slice (some ⟨m.w.heap.size,0,none⟩) n cap)) (m.w.alloc (.cells vs e))) :
  CU B S w0 P o a m (.new s ⟨z,es⟩ (λ t => .row s t z 0 n)):=by
 intro K Q hK;obtain ⟨h1,h2⟩:=XG hm s ⟨z,es⟩ vs e hz hc;exact OH h (hK _ ⟨j7 m s (some m.w.heap.size),m.own.put s ((m.own s).new ⟨z,es⟩),m.w.alloc (.cells vs e)⟩ rfl h1 h2 (fX ep hn (heap_alloc_new _ _) ag))
theorem Vc (hm:BP B S w0 m) (hs:CP B S m ρ a.eval) {s a9:Nat} {fq:List AP} (h:BI P num o.op (.c7 s a9 fq)=true) {es:List (List AV)} (jv:fq.mapM (λ x=>cellsOf (ρ x))=some es) (hz : ∀ e∈es,e.length=a9) :
  CU B S w0 P o a m (.new s ⟨a9,es⟩ (λ t => .row s t a9 0 es.length)):=by
 obtain ⟨t,n,ps,e,i,m9,hu,hi,ag,h0,hn,Na,fu,hzero⟩:=Aei h;have hlen:es.length=n:=by
  rw[hn];clear h fu hzero hn;induction fq generalizing es with
  | nil=>simp at jv;subst jv;rfl
  | cons y l ih =>
   simp only[List.mapM_cons,Option.bind_eq_bind,Option.pure_def]at jv;cases hcell:cellsOf (ρ y) with
   | none=>simp [hcell]at jv
   | some us =>
    cases fj:l.mapM (λ x=>cellsOf (ρ x)) with
    | none=>simp [hcell,fj]at jv
    | some es' =>
     simp [hcell,fj]at jv;subst jv;simp [ih fj (λ e he=>hz e (by simp [he]))]
 obtain ⟨zc,Bj⟩ : ∃ zc:Array Value,(n*a9=0/\zc = #[])\/(¬ n*a9=0 /\ ∃ z,i.zero=some z/\zc=z.cells):=by
  by_cases n9:n*a9=0
  ·exact ⟨#[],.inl ⟨n9,rfl⟩⟩
  ·rcases hzero with Ah|⟨z,gb,tj⟩
   ·simp [Ah]at n9
   ·exact ⟨z.cells,.inr ⟨n9,z,gb,rfl⟩⟩
 have Hv:((Array.range (n*a9)).map (zc[· % zc.size]!)).size=n*a9:=by simp
 obtain ⟨dh,h3,h4,_,h6⟩:=pG a9 hs ps.toList fq 0 es _ fu jv hz (by rw[Hv,hn];simp);have w4:(execOp a.eval o).run P m.w = .ok (.value (.slice (some ⟨m.w.heap.size,0,none⟩) n n)) (m.w.alloc (.cells dh e)):=by
  simp only[execOp,m9,Instr.buildSlice,Sem.run_bind,run_underlying hu,Result.andThen_ok,sizeOf,typeInfo,run_program,hi,Sem.run_pure,ag];simp only[show ¬ (n*a9>2^24) from by omega,if_false,Sem.run_bind,Sem.run_pure,Result.andThen_ok];rcases Bj with ⟨Ah,rfl⟩|⟨Ah,z,gb,rfl⟩
  ·simp only[Ah,if_true,Sem.run_bind,Sem.run_pure,Result.andThen_ok,Array.toList_map]
   rw[Ah]at h3;rw[h3];rfl
  ·simp only[Ah,if_false,Sem.run_bind,Sem.run_pure,Result.andThen_ok,Array.toList_map,zeroValue,typeInfo,run_program,hi,gb]
   rw[h3];rfl
 rw[hlen];exact mO hm s a9 n n es dh e (Nat.pos_of_ne_zero h0) (Nat.le_refl _) (by rw[h4,Hv];exact Nat.le_refl _) hz (λ i cs v9 j c hj=>by simpa using h6 i cs v9 j c hj) w4
end
end Go.g6

namespace Go.g6
open Go.RowKit
section
variable {B:Nat} {S:Nat->Prop} {w0:World} {m:M}
variable {P:Program} {num:Nat->Nat} {o:Oper} {a:Act} {ρ:AP->AV}
theorem X1 {x:AV} {v:Value} (h:CV B S m x v) (h1:x ≠ .any) (h2 : ∀ cs,x ≠ .agg cs) (h3 : ∀ cs,x ≠ .g9 cs) (h4 : ∀ p f g cs,x ≠ .fn p f g cs:=by intros;simp):CC B S m x v:=by
 cases h with
 | any=>exact absurd rfl h1
 | g9 as=>exact absurd rfl (h3 as)
 | ca h=>cases h with
  | one h=>exact h
  | agg cs=>exact absurd rfl (h2 cs)
  | fn p f g cs=>exact absurd rfl (h4 p f g cs)
  | wg f g cs=>exact absurd rfl (h4 true f g cs)
theorem SY {s t i j:Nat} {v:Value} (h:CV B S m (.ptr s t i j) v) : ∃ ad,v = .pointer (some ad)/\t<m.own.j6 s /\ ∀ b,m.own.get s t=some b -> ∃ g,m.ν s t=some g/\ad=⟨g,i*b.a9+j,none⟩:=by
 cases X1 h (by simp) (by simp) (by simp) with
 | rd h=>cases h
 | ptr s t i j ad ht h'=>exact ⟨ad,rfl,ht,h'⟩
theorem bZ {cs:List AV} {v:Value} (h:CV B S m (.w6 cs) v) : ∃ (b o:Nat) (u:Nat->Value) (l:Bool),v = .pointer (some ⟨b,o,none⟩)/\(cs≠[]->safe B S m l b)/\(∀ j c,cs[j]? = some c->m.w.cell? ⟨b,o+j,none⟩=some (u j))/\(∀ j c,cs[j]? = some c->Rd m.w (safe B S m) c (u j)):=by
 cases X1 h (by simp) (by simp) (by simp) with
 | rd h=>cases h
 | w6 _ b o u l h1 h2 h3=>exact ⟨b,o,u,l,rfl,h1,h2,h3⟩
theorem SZ {s t z off len:Nat} {v:Value} (h:CV B S m (.row s t z off len) v) : ∃ (ad:Option Addr) (cap:Nat),v = .slice ad len cap/\t<m.own.j6 s/\0<z/\len<=cap/\(0<len->ad.isSome=true) /\
  ∀ b,m.own.get s t=some b->b.a9=z/\((len=0/\cap=0) \/ ∃ g arr e,m.ν s t=some g/\ad=some ⟨g,off*z,none⟩/\m.w.heap[g]? = some (.cells arr e (0,0))/\(off+cap)*z<=arr.size):=by
 cases X1 h (by simp) (by simp) (by simp) with
 | rd h=>cases h
 | row s t z off len ad cap ht ep pf ha h'=>exact ⟨ad,cap,rfl,ht,ep,pf,ha,h'⟩
theorem X3 {l:Bool} {es:List (List AV)} {v:Value} (h:CV B S m (.sl l es) v):Rd m.w (safe B S m) (.sl l es) v:=by
 cases X1 h (by simp) (by simp) (by simp) with
 | rd h=>exact h
theorem Yc (hm:BP B S w0 m) (hs:CP B S m ρ a.eval) {x':AP} (h:BI P num o.op (.nm x')=true) {s t i j:Nat} (hx:ρ x' = .ptr s t i j):CU B S w0 P o a m (.val (.ptr s t i j)):=by
 obtain ⟨x,m9,h1⟩:=Aez h;have hc:=hx ▸ hs x x' h1;obtain ⟨ad,hv,_,_⟩:=SY hc;refine EL hm (u := .pointer (some ad)) ?_ (hv ▸ hc);simp [execOp,m9,hv]
theorem Ue (hm:BP B S w0 m) (hs:CP B S m ρ a.eval) {x':AP} {off:Nat} (h:BI P num o.op (.bn x' off)=true) {s t i j:Nat} (hx:ρ x' = .ptr s t i j):CU B S w0 P o a m (.val (.ptr s t i (j+off))):=by
 obtain ⟨ty,x,f,fs,fd,inf,m9,h1,hu,hf,ho,hi,ag⟩:=qG h;obtain ⟨ad,hv,ht,hb⟩:=SY (hx ▸ hs x x' h1);refine EL hm (u := .pointer (some (ad.add off))) ?_ (.ca (.one (.ptr s t i (j+off) _ ht λ b n6 => ?_)))
 ·simp [execOp,m9,hv,Instr.fieldAt,run_underlying hu,hf,Instr.sureAddr,fieldPlace,sizeOf,typeInfo,hi,ag,ho]
 ·obtain ⟨g,hg,rfl⟩:=hb b n6
  exact ⟨g,hg,by rw[HB];simp;omega⟩
theorem Ud (hm:BP B S w0 m) (hs:CP B S m ρ a.eval) {x':AP} {off:Nat} (h:BI P num o.op (.bn x' off)=true) {cs:List AV} (hx:ρ x' = .w6 cs):CU B S w0 P o a m (.val (.w6 (cs.drop off))):=by
 obtain ⟨ty,x,f,fs,fd,inf,m9,h1,hu,hf,ho,hi,ag⟩:=qG h;obtain ⟨b,ob,u,l,hv,hR,hc,hr⟩:=bZ (hx ▸ hs x x' h1);refine EL hm (u := .pointer (some ⟨b,ob+off,none⟩)) ?_ (.ca (.one (.w6 _ b (ob+off) (λ j=>u (off+j)) l (λ n9=>hR (λ e=>n9 (by simp [e]))) (λ j c hj => ?_) (λ j c hj => ?_))))
 ·simp [execOp,m9,hv,Instr.fieldAt,run_underlying hu,hf,Instr.sureAddr,fieldPlace,sizeOf,typeInfo,hi,ag,ho,HB]
 ·rw[List.getElem?_drop]at hj
  rw[Nat.add_assoc];exact hc _ c hj
 ·rw[List.getElem?_drop]at hj
  exact hr _ c hj
theorem ZA {agg:Bool} {cs:List AV} {v:AV} (h:JV agg cs=some v) {vs:List Value} (hc:CL B S m cs vs):CV B S m v (if agg then .agg vs.toArray else vs.getD 0 undef)/\(agg=false->vs.length=1):=by
 unfold JV at h;cases agg with
 | true =>
  obtain rfl:AV.agg cs=v:=by simpa using h
  exact ⟨.ca (.agg cs vs hc),by simp⟩
 | false =>
  simp only[Bool.false_eq_true,if_false]at h;split at h
  ·rename_i c
   obtain rfl:c=v:=by simpa using h
   obtain ⟨u,hu,ax⟩:=SX hc (j:=0) (c:=c) rfl;refine ⟨?_,λ_=>by rw[<-hc.1];rfl⟩;simp only[Bool.false_eq_true,if_false,List.getD,hu,Option.getD_some];exact .ca (.one ax)
  ·cases h
theorem Af8 (t:TypeId) (agg:Bool) (inf:TypeInfo) (jo : ∀ w,(isAgg t).run P w = .ok agg w) (hi:P.info? t=some inf) (vs:List Value) (off n:Nat) (hn:inf.size=n) (hle:off+n<=vs.length) (h1:agg=false->n=1) (w:World) :
  (Go.part t vs.toArray off).run P w = .ok (if agg then .agg ((vs.drop off).take n).toArray else ((vs.drop off).take n).getD 0 undef) w:=by
 unfold Go.part;rw[Sem.run_bind,jo w];cases agg with
 | true=>simp [sizeOf,typeInfo,hi,hn,List.extract_eq_take_drop]
 | false =>
  have o7:off<vs.length:=by have:=h1 rfl;omega
  simp [o7,h1 rfl]
theorem Uf (hm:BP B S w0 m) (hs:CP B S m ρ a.eval) {x':AP} {off n:Nat} {agg:Bool} (h:BI P num o.op (.qf x' off n agg)=true) {cs ds:List AV} {v:AV} (hx:ρ x' = .agg cs) (hp:part cs off n=some ds) (hv:JV agg ds=some v) :
  CU B S w0 P o a m (.val v):=by
 obtain ⟨ty,x,f,fs,fd,inf,m9,h1,hu,hf,ho,hi,ag,jo,h0⟩:=Aer h;obtain ⟨vs,bz,u9⟩:=Vt (hx ▸ hs x x' h1);unfold g6.part at hp;split at hp
 ·rename_i hle
  obtain rfl:(cs.drop off).take n=ds:=by simpa using hp
  obtain ⟨aj,gl⟩:=ZA hv (Rq u9 off n);have hl:=u9.1;have Fa:agg=false->n=1:=λ e=>by have:=gl e;simp at this;omega
  refine EL hm ?_ aj;simp only[execOp,m9,Sem.run_bind,Instr.field,run_underlying hu,Result.andThen_ok,hf,bz,asAgg,Sem.run_pure,ho];rw[Af8 fd.type agg inf jo hi vs off n ag (by omega) Fa];rfl
 ·cases hp
theorem Ug (hm:BP B S w0 m) (hs:CP B S m ρ a.eval) {len a9:Nat} {x' i':AP} (h:BI P num o.op (.aq (some len) a9 x' i')=true) {k:IntKind} {n:Int} {s t i0 j:Nat} (v9:ρ i' = .int k n) (hx:ρ x' = .ptr s t i0 j) (h0:0<=n) (hn:n<len) :
  CU B S w0 P o a m (.val (.ptr s t i0 (j+n.toNat*a9))):=by
 obtain ⟨ty,x,i,e,inf,m9,h1,h2,hi,ag,df⟩:=YS h;rcases df with ⟨ui,hl,hu,o7⟩|⟨hl,_⟩
 ·obtain rfl:len=ui:=by simpa using hl
  obtain ⟨ad,hv,ht,hb⟩:=SY (hx ▸ hs x x' h1);have yk:=HQ (v9 ▸ hs i i' h2);refine EL hm (u := .pointer (some (ad.add (n.toNat*a9)))) ?_ (.ca (.one (.ptr s t i0 (j+n.toNat*a9) _ ht λ b n6 => ?_)))
  ·simp [execOp,m9,hv,yk,Instr.indexAt,asIntOf,run_underlying hu,Instr.sureAddr,sizeOf,typeInfo,hi,ag,h0,hn]
  ·obtain ⟨g,hg,rfl⟩:=hb b n6
   exact ⟨g,hg,by rw[HB];simp;omega⟩
 ·cases hl
theorem Uh (hm:BP B S w0 m) (hs:CP B S m ρ a.eval) {len a9:Nat} {x' i':AP} (h:BI P num o.op (.aq (some len) a9 x' i')=true) {k:IntKind} {n:Int} {cs:List AV} (v9:ρ i' = .int k n) (hx:ρ x' = .w6 cs) (h0:0<=n) (hn:n<len) :
  CU B S w0 P o a m (.val (.w6 (cs.drop (n.toNat*a9)))):=by
 obtain ⟨ty,x,i,e,inf,m9,h1,h2,hi,ag,df⟩:=YS h;rcases df with ⟨ui,hl,hu,o7⟩|⟨hl,_⟩
 ·obtain rfl:len=ui:=by simpa using hl
  obtain ⟨b,ob,u,l,hv,hR,hc,hr⟩:=bZ (hx ▸ hs x x' h1);have yk:=HQ (v9 ▸ hs i i' h2);refine EL hm (u := .pointer (some ⟨b,ob+n.toNat*a9,none⟩)) ?_ (.ca (.one (.w6 _ b (ob+n.toNat*a9) (λ j=>u (n.toNat*a9+j)) l (λ n9=>hR (λ e=>n9 (by simp [e]))) (λ j c hj => ?_) (λ j c hj => ?_))))
  ·simp [execOp,m9,hv,yk,Instr.indexAt,asIntOf,run_underlying hu,Instr.sureAddr,sizeOf,typeInfo,hi,ag,h0,hn,HB]
  ·rw[List.getElem?_drop]at hj
   rw[Nat.add_assoc];exact hc _ c hj
  ·rw[List.getElem?_drop]at hj
   exact hr _ c hj
 ·cases hl
theorem tS (ty e:TypeId) (inf:TypeInfo) (hu:P.underlying ty=some (.slice e)) (hi:P.info? e=some inf) (ad:Addr) (len cap:Nat) (k:IntKind) (n:Int) (h0:0<=n) (hn:n<len) (w:World) :
  (Instr.indexAt ty (.slice (some ad) len cap) (.int k n)).run P w = .ok (.pointer (some (ad.add (n.toNat*inf.size)))) w:=by
 simp [Instr.indexAt,asIntOf,run_underlying hu,sizeOf,typeInfo,hi,h0,hn]
theorem Ui (hm:BP B S w0 m) (hs:CP B S m ρ a.eval) {a9:Nat} {x' i':AP} (h:BI P num o.op (.aq none a9 x' i')=true) {k:IntKind} {n:Int} {s t z off len:Nat} (v9:ρ i' = .int k n) (hx:ρ x' = .row s t z off len) (h0:0<=n) (hn:n<len) (hz:z=a9) :
  CU B S w0 P o a m (.val (.ptr s t (off+n.toNat) 0)):=by
 obtain ⟨ty,x,i,e,inf,m9,h1,h2,hi,ag,df⟩:=YS h;rcases df with ⟨_,hl,_⟩|⟨_,hu,_⟩
 ·cases hl
 ·obtain ⟨ad,cap,hv,ht,ep,pf,ha,hb⟩:=SZ (hx ▸ hs x x' h1)
  have yk:=HQ (v9 ▸ hs i i' h2);obtain ⟨Dp,rfl⟩:=Option.isSome_iff_exists.1 (ha (by omega));refine EL hm (u := .pointer (some (Dp.add (n.toNat*a9)))) ?_ (.ca (.one (.ptr s t (off+n.toNat) 0 _ ht λ b n6 => ?_)))
  ·simp only[execOp,m9,hv,yk,Sem.run_bind]
   rw[tS ty e inf hu hi Dp len cap k n h0 hn,ag];rfl
  ·obtain ⟨tc,df⟩:=hb b n6
   rcases df with ⟨da,_⟩|⟨g,arr,e',hg,mi,_,_⟩
   ·omega
   ·obtain rfl:Dp=⟨g,off*z,none⟩:=by simpa using mi
    exact ⟨g,hg,by rw[HB,tc,<-hz,Nat.add_mul];rfl⟩
theorem Uj (hm:BP B S w0 m) (hs:CP B S m ρ a.eval) {a9:Nat} {x' i':AP} (h:BI P num o.op (.aq none a9 x' i')=true) {k:IntKind} {n:Int} {l:Bool} {es:List (List AV)} {cs:List AV} (v9:ρ i' = .int k n) (hx:ρ x' = .sl l es) (h0:0<=n) (hn:es[n.toNat]? = some cs) (hz:cs.length=a9) :
  CU B S w0 P o a m (.val (.w6 cs)):=by
 obtain ⟨ty,x,i,e,inf,m9,h1,h2,hi,ag,df⟩:=YS h;rcases df with ⟨_,hl,_⟩|⟨_,hu,_⟩
 ·cases hl
 ·have ku:=X3 (hx ▸ hs x x' h1)
  have yk:=HQ (v9 ▸ hs i i' h2);have o7:n.toNat<es.length:=(zS hn).1;generalize bz:a.eval x=v at ku;cases ku with
  | ke=>simp at o7
  | sl _ _ b ob z7 cap u n9 hp hR bq iq hc hr =>
   have Hu:z7=a9:=by
    rw[<-hz];exact (iq cs (zM hn)).symm
   subst Hu;refine EL hm (u := .pointer (some ⟨b,ob+n.toNat*z7,none⟩)) ?_ (.ca (.one (.w6 _ b (ob+n.toNat*z7) (u n.toNat) l (λ_=>hR) (λ j c hj => ?_) (λ j c hj=>hr _ cs hn j c hj))))
   ·simp only[execOp,m9,bz,yk,Sem.run_bind]
    rw[tS ty e inf hu hi ⟨b,ob,none⟩ es.length cap k n h0 (by omega),ag,HB];rfl
   ·rw[Nat.add_assoc]
    exact hc _ cs hn j c hj
end
end Go.g6

namespace Go.g6
open Go.RowKit
section
variable {B:Nat} {S:Nat->Prop} {w0:World} {m:M}
variable {P:Program} {num:Nat->Nat} {o:Oper} {a:Act} {ρ:AP->AV}
theorem gT (t:TypeId) (agg:Bool) (n:Nat) (jo : ∀ w,(isAgg t).run P w = .ok agg w) (hn:if agg then ∃ i,P.info? t=some i/\i.size=n else n=1) (ad:Addr) (vs:List Value) (hl:vs.length=n) (w:World)
  (hc : ∀ q v,vs[q]? = some v->w.cell? (ad.add q)=some v):(Instr.loadAt t (.pointer (some ad))).run P w = .ok (if agg then .agg vs.toArray else vs.getD 0 undef) w:=by
 unfold Instr.loadAt loadVar;simp only[Instr.sureAddr,Sem.run_bind,Sem.run_pure,Result.andThen_ok,jo w];cases agg with
 | true =>
  simp only[if_true]at hn;obtain ⟨i,hi,hs⟩:=hn;have:=run_loadCells_list (P:=P) w ad vs hc
  simp [sizeOf,typeInfo,hi,hs,<-hl,this]
 | false =>
  simp only[Bool.false_eq_true,if_false]at hn ⊢;have o7:0<vs.length:=by omega
  have h0:=hc 0 vs[0] (zE o7);have Ah:w.cell? ad=some vs[0]:=by simpa [Addr.add] using h0
  simp [load,Sem.run,Ah,o7]
theorem sU (hm:BP B S w0 m) {s t i j n:Nat} {cs:List AV} (h:m.own.kb s t i j n=some cs) : ∃ b g arr e,m.own.get s t=some b/\(0<n->m.ν s t=some g/\m.w.heap[g]? = some (.cells arr e (0,0))) /\
  ∃ vs:List Value,vs.length=n/\CL B S m cs vs /\ ∀ q v,vs[q]? = some v->arr[i*b.a9+j+q]? = some v:=by
 unfold AH.kb at h;cases hb:m.own.get s t with
 | none=>simp [hb]at h
 | some b =>
  simp only[hb]at h;cases he:b.es[i]? with
  | none=>simp [he]at h
  | some ds =>
   simp only[he,part]at h;split at h
   ·rename_i hle
    obtain rfl:(ds.drop j).take n=cs:=by simpa using h
    obtain ⟨hz,dz⟩:=hm.g8 s t b hb;cases hν:m.ν s t with
    | none =>
     rw[hν]at dz;rw[dz]at he;simp at he
    | some g =>
     rw[hν]at dz;obtain ⟨hB,arr,e,hh,ax⟩:=dz;have ag : ∀ q,q<n -> ∃ u,arr[i*b.a9+j+q]? = some u:=λ q hq=>by
      have o7:j+q<ds.length:=by omega
      obtain ⟨u,hu,_⟩:=ax i ds he (j+q) ds[j+q] (zE o7);exact ⟨u,by rw[<-hu];congr 1;omega⟩
     refine ⟨b,g,arr,e,rfl,λ_=>⟨rfl,hh⟩,(arr.toList.drop (i*b.a9+j)).take n,?_,⟨?_,?_⟩,?_⟩
     ·rw[List.length_take,List.length_drop]
      rcases Nat.eq_zero_or_pos n with h0|h0
      ·omega
      ·obtain ⟨u,hu⟩:=ag (n-1) (by omega)
       have:=(Array.getElem?_eq_some_iff.1 hu).1
       simp;omega
     ·rw[List.length_take,List.length_take,List.length_drop,List.length_drop]
      rcases Nat.eq_zero_or_pos n with h0|h0
      ·omega
      ·obtain ⟨u,hu⟩:=ag (n-1) (by omega)
       have:=(Array.getElem?_eq_some_iff.1 hu).1
       simp;omega
     ·intro q c v hq hv
      rw[List.getElem?_take]at hq hv;split at hq
      ·rename_i Gz
       rw[if_pos Gz]at hv;rw[List.getElem?_drop]at hq hv;obtain ⟨u,hu,hc⟩:=ax i ds he (j+q) c hq;have:some u=some v:=by
        rw[<-hu,<-hv];simp only[Array.getElem?_toList];congr 1;omega
       obtain rfl:u=v:=by simpa using this
       exact hc
      ·cases hq
     ·intro q v hv
      rw[List.getElem?_take]at hv;split at hv
      ·rw[List.getElem?_drop]at hv
       simpa using hv
      ·cases hv
   ·cases h
theorem XR {w:World} {g p:Nat} {arr:Array Value} {e:TypeId} (h:w.heap[g]? = some (.cells arr e (0,0))):w.cell? ⟨g,p,none⟩=arr[p]? := by
 simp [World.cell?,h]
theorem Uk (hm:BP B S w0 m) (hs:CP B S m ρ a.eval) {agg:Bool} {n:Nat} {x':AP} (h:BI P num o.op (.ld agg n x')=true) {s t i j:Nat} {cs:List AV} {v:AV} (hx:ρ x' = .ptr s t i j) (hl:m.own.kb s t i j n=some cs) (hv:JV agg cs=some v) :
  CU B S w0 P o a m (.val v):=by
 obtain ⟨ty,x,m9,h1,jo,hn⟩:=qH h;obtain ⟨ad,bz,ht,hb⟩:=SY (hx ▸ hs x x' h1);obtain ⟨b,g,arr,e,s9,hg,vs,mc,u9,jb⟩:=sU hm hl;obtain ⟨aj,_⟩:=ZA hv u9;refine EL hm ?_ aj;simp only[execOp,m9,Sem.run_bind,bz];rw[gT ty agg n jo hn ad vs mc m.w (λ q u hq => ?_)]
 ·rfl
 ·have o7:q<vs.length:=(zS hq).1
  obtain ⟨Cr,jk⟩:=hg (by omega);obtain ⟨g',fy,rfl⟩:=hb b s9;obtain rfl:g=g':=by rw[Cr]at fy;simpa using fy
  rw[HB,XR jk];exact jb q u hq
theorem mK (hm:BP B S w0 m) (hs:CP B S m ρ a.eval) {agg:Bool} {n:Nat} {x':AP} (h:BI P num o.op (.ld agg n x')=true) {cs ds:List AV} {v:AV} (hx:ρ x' = .w6 cs) (hl:part cs 0 n=some ds) (hv:JV agg ds=some v) :
  CU B S w0 P o a m (.val v):=by
 obtain ⟨ty,x,m9,h1,jo,hn⟩:=qH h;obtain ⟨b,ob,u,l,bz,hR,hc,hr⟩:=bZ (hx ▸ hs x x' h1);unfold g6.part at hl;split at hl
 ·rename_i hle
  obtain rfl:(cs.drop 0).take n=ds:=by simpa using hl
  have u9:CL B S m ((cs.drop 0).take n) ((List.range n).map u):=by
   refine ⟨by simp;omega,λ q c v' hq nk => ?_⟩;simp only[List.drop_zero,List.getElem?_take]at hq;split at hq
   ·rename_i Gz
    simp [Gz]at nk;subst nk;exact .rd (hr q c hq)
   ·cases hq
  obtain ⟨aj,_⟩:=ZA hv u9;refine EL hm ?_ aj;simp only[execOp,m9,Sem.run_bind,bz];rw[gT ty agg n jo hn ⟨b,ob,none⟩ ((List.range n).map u) (by simp) m.w (λ q w' hq => ?_)]
  ·rfl
  ·have Gz:q<n:=by have:=(zS hq).1;simpa using this
   simp [Gz]at hq;subst hq;rw[HB];exact hc q cs[q] (zE (by omega))
 ·cases hl
theorem iA {α:Type} (l:List α) (off:Nat) (vs:List α) (h:off+vs.length<=l.length) (q:Nat):(l.take off++vs++l.drop (off+vs.length))[q]? = if q<off then l[q]? else if q<off+vs.length then vs[q-off]? else l[q]? := by
 rw[List.append_assoc];by_cases h1:q<off
 ·rw[if_pos h1,List.getElem?_append_left (by simp;omega),List.getElem?_take,if_pos h1]
 ·rw[if_neg h1,List.getElem?_append_right (by simp;omega)]
  have e1:(l.take off).length=off:=by simp;omega
  rw[e1];by_cases h2:q<off+vs.length
  ·rw[if_pos h2,List.getElem?_append_left (by omega)]
  ·rw[if_neg h2,List.getElem?_append_right (by omega),List.getElem?_drop]
   congr 1;omega
theorem kL (hm:BP B S w0 m) {g:Nat} (hB:B<=g) (arr:Array Value):Below B w0 (m.w.setRow g arr) :=
 hm.below.trans ⟨rfl,rfl,rfl,by simp,λ k hk=>setRow_other _ _ _ _ (by omega)⟩
theorem mP (hm:BP B S w0 m) (hs:CP B S m ρ a.eval) {n:Nat} {x' v':AP} (h:BI P num o.op (.st n x' v')=true) {s t i j:Nat} {vs:List AV} {n0:AH} (hx:ρ x' = .ptr s t i j) (hv:cellsOf (ρ v')=some vs) (hn:vs.length=n) (m4:m.own.lf s t i j vs=some n0) :
  CU B S w0 P o a m (.dp (.g9 []) n0):=by
 obtain ⟨ty,x,v,inf,m9,h1,h2,hi,ag⟩:=AeD h;obtain ⟨ad,bz,ht,hb⟩:=SY (hx ▸ hs x x' h1);have u9:=X2 (hs v v' h2) hv;unfold AH.lf at m4;cases s9:m.own.get s t with
 | none=>simp [s9]at m4
 | some b =>
  simp only[s9]at m4;cases he:b.es[i]? with
  | none=>simp [he]at m4
  | some cs =>
   simp only[he]at m4;split at m4
   ·rename_i hle
    obtain rfl:=Option.some.inj m4;obtain ⟨hz,dz⟩:=hm.g8 s t b s9;obtain ⟨g,hg,rfl⟩:=hb b s9;rw[hg]at dz;obtain ⟨hB,arr,e,hh,ax⟩:=dz;have Ky:cs.length=b.a9:=hz cs (zM he);have hlen:(a.eval v).cells.toList.length=vs.length:=u9.1.symm;have au:i<b.es.length:=(zS he).1;have Cy:i*b.a9+j+vs.length<=arr.size:=by
     rcases Nat.eq_zero_or_pos vs.length with h0|h0
     ·rcases Nat.eq_zero_or_pos j with Iw|Iw
      ·rw[h0,Iw]
       rcases Nat.eq_zero_or_pos i with wx|wx
       ·rw[wx];omega
       ·rcases Nat.eq_zero_or_pos b.a9 with ep|ep
        ·rw[ep];omega
        ·have Pl:i-1<b.es.length:=by omega
         have ng:(b.es[i-1]).length=b.a9:=hz _ (List.getElem_mem Pl);obtain ⟨u,hu,_⟩:=ax (i-1) _ (zE Pl) (b.a9-1) _ (zE (by omega));have:=(Array.getElem?_eq_some_iff.1 hu).1
         have e1:(i-1)*b.a9+b.a9=i*b.a9:=by
          rw[<-Nat.succ_mul];congr 1;omega
         omega
      ·obtain ⟨u,hu,_⟩:=ax i cs he (j-1) cs[j-1] (zE (by omega))
       have:=(Array.getElem?_eq_some_iff.1 hu).1
       omega
     ·obtain ⟨u,hu,_⟩:=ax i cs he (j+vs.length-1) cs[j+vs.length-1] (zE (by omega))
      have:=(Array.getElem?_eq_some_iff.1 hu).1
      omega
    have gl:=Rp u9;have xm:=run_storeCells_at (P:=P) g (i*b.a9+j) e (a.eval v).cells.toList 0 arr m.w hh (by rw[hlen];omega) gl;generalize nx:(arr.toList.take (i*b.a9+j+0)++(a.eval v).cells.toList++arr.toList.drop (i*b.a9+j+0+(a.eval v).cells.toList.length)).toArray=x9 at xm;have An : ∀ p,x9[p]? = if p<i*b.a9+j then arr[p]? else if p<i*b.a9+j+vs.length then (a.eval v).cells.toList[p-(i*b.a9+j)]? else arr[p]? := λ p=>by
     rw[<-nx];simp only[Nat.add_zero,List.getElem?_toArray];rw[iA _ _ _ (by rw[hlen];simpa using Cy),hlen];simp only[Array.getElem?_toList]
    have rb:x9.size=arr.size:=by
     rw[<-nx];simp [hlen];have:=hlen
     simp at this;omega
    obtain ⟨k1,k2⟩:=AhA hm s t b ⟨b.a9,b.es.set i (splice cs j vs)⟩ s9 g hg arr x9 e hh rfl (λ y hy=>by
      rcases List.mem_or_eq_of_mem_set hy with hy|hy
      ·exact hz y hy
      ·rw[hy,<-Ky];simp [splice];omega) rb
     (λ i' fr v9 q c hq=>by
      show ∃ u,x9[i'*b.a9+q]? = some u/\_;change (b.es.set i (splice cs j vs))[i']? = some fr at v9;by_cases Pm:i'=i
      ·subst Pm
       rw[List.getElem?_set_self au]at v9;obtain rfl:splice cs j vs=fr:=by simpa using v9
       unfold splice at hq;rw[iA _ _ _ hle]at hq;rw[An];by_cases zl:q<j
       ·rw[if_pos zl]at hq
        rw[if_pos (by omega)];exact ax i' cs he q c hq
       ·rw[if_neg zl]at hq
        rw[if_neg (by omega)];by_cases Eb:q<j+vs.length
        ·rw[if_pos Eb]at hq
         rw[if_pos (by omega)];obtain ⟨u,hu,ib⟩:=SX u9 hq;exact ⟨u,by rw[<-hu];congr 1;omega,ib⟩
        ·rw[if_neg Eb]at hq
         rw[if_neg (by omega)];exact ax i' cs he q c hq
      ·rw[List.getElem?_set_ne (by omega)]at v9
       have Az:q<b.a9:=by
        rw[<-hz fr (zM v9)];exact (zS hq).1
       obtain ⟨u,hu,ib⟩:=ax i' fr v9 q c hq;refine ⟨u,?_,ib⟩;rw[An,<-hu];rcases Nat.lt_or_gt_of_ne Pm with o7|ua
       ·have:(i'+1)*b.a9<=i*b.a9:=zR _ o7
        rw[Nat.succ_mul]at this;rw[if_pos (by omega)]
       ·have:(i+1)*b.a9<=i'*b.a9:=zR _ ua
        rw[Nat.succ_mul]at this;rw[if_neg (by omega),if_neg (by omega)])
     (m.w.setRow g x9) (kL hm hB x9) (by simp) (λ k hk=>setRow_other _ _ _ _ hk) (setRow_heap _ _ _ _ _ _ hh)
    intro K Q hK;refine AhI (w':=m.w.setRow g x9) ?_ (hK undef ⟨m.ν,_,m.w.setRow g x9⟩ rfl k1 k2 rL);have Ng:(a.eval v).cells.size=inf.size:=by rw[ag,<-hn,<-hlen];simp
    simp only[execOp,m9,bz,Instr.storeAt,storeVar,Instr.sureAddr,Sem.run_bind,Sem.run_pure,Result.andThen_ok,sizeOf,typeInfo,run_program,hi];rw[if_neg (by simpa using Ng)];simp only[Sem.run_bind,Sem.run_pure,Result.andThen_ok,xm]
   ·cases m4
theorem Um (hm:BP B S w0 m) (hs:CP B S m ρ a.eval) {s a9 bytes:Nat} {zero:List AV} {l' c':AP} (h:BI P num o.op (.mk s a9 bytes zero l' c')=true) {kl kc:IntKind} {l c:Int} (hl:ρ l' = .int kl l) (hc:ρ c' = .int kc c) (h0:0<=l) (pf:l<=c) (hb:c*bytes<=D5) (Dq:c<=9223372036854775807) (hz:zero.length=a9) :
  CU B S w0 P o a m (.new s ⟨a9,List.replicate l.toNat zero⟩ (λ t => .row s t a9 0 l.toNat)):=by
 obtain ⟨ty,lx,cx,e,inf,z,m9,h1,h2,hu,hi,ag,tz,ep,iq,n9⟩:=Aew h;have el:=HQ (hl ▸ hs lx l' h1);have ec:=HQ (hc ▸ hs cx c' h2);have u9:CL B S m zero z.cells.toList:=S3 iq;have hzs:z.cells.size=a9:=by rw[<-hz,u9.1];simp
 refine mO hm s a9 l.toNat c.toNat _ (madeCells z.cells (c.toNat*inf.size)) e (Nat.pos_of_ne_zero n9) (by omega) (by rw[size_madeCells,ag];exact Nat.le_refl _) (λ x hx=>by rw[(List.mem_replicate.1 hx).2,hz]) (λ i cs v9 j c1 hj => ?_) ?_
 ·rw[List.getElem?_replicate]at v9
  split at v9
  ·rename_i au
   obtain rfl:zero=cs:=by simpa using v9
   obtain ⟨u,mu,ib⟩:=SX u9 hj;refine ⟨u,?_,ib⟩;have ew:j<a9:=by rw[<-hz];exact (zS hj).1
   have o7:i*a9+j<c.toNat*inf.size:=by
    rw[ag];have h3:(i+1)*a9<=c.toNat*a9:=zR _ (by omega);rw[Nat.succ_mul]at h3;omega
   have Ma:(i*a9+j)%z.cells.size=j:=by rw[hzs,Nat.add_comm,Nat.add_mul_mod_self_right,Nat.mod_eq_of_lt ew]
   have Ef:z.cells[j]? = some u:=by simpa using mu
   have hjs:j<z.cells.size:=(Array.getElem?_eq_some_iff.1 Ef).1;have kn:z.cells[j]=u:=(Array.getElem?_eq_some_iff.1 Ef).2;simp [madeCells,o7,Ma,hjs,kn]
  ·cases v9
 ·have:=run_make (P:=P) m.w ty e inf z hu hi ep kl kc l c h0 pf (by rw[tz,Int.mul_comm];simp only[D5]at hb;omega) Dq
  simp only[execOp,m9,el,ec,Sem.run_bind,this,Result.andThen_ok,Sem.run_pure]
theorem Vn (hm:BP B S w0 m) (hs:CP B S m ρ a.eval) {x':AP} {i:Nat} (h:BI P num o.op (.ext x' i)=true) {vs:List AV} {v:AV} (hx:ρ x' = .g9 vs) (hv:vs[i]? = some v):CU B S w0 P o a m (.val v):=by
 obtain ⟨x,m9,h1⟩:=Aeq h;obtain ⟨us,bz,hl,hc⟩:=cB (hx ▸ hs x x' h1);have o7:i<us.length:=by rw[<-hl];exact (zS hv).1
 refine EL hm (u:=us[i]) ?_ (.ca (hc i v us[i] hv (zE o7)));simp [execOp,m9,bz,Instr.extract,o7]
theorem Ul (hm:BP B S w0 m) (hs:CP B S m ρ a.eval) {x':AP} (h:BI P num o.op (.len x')=true) {n:Nat} (hx:OY (ρ x')=some n):CU B S w0 P o a m (.val (.int .i64 n)):=by
 obtain ⟨x,t,e,m9,h1,hu⟩:=Aeu h;have aj:=hs x x' h1;obtain ⟨ad,cap,bz⟩ : ∃ ad cap,a.eval x = .slice ad n cap:=by
  generalize ρ x'=av at *;cases av with
  | sl l es =>
   have hr:=X3 aj;simp only[OY,Option.some.injEq]at hx;subst hx;generalize a.eval x=v at *;cases hr with
   | ke=>exact ⟨_,_,rfl⟩
   | sl=>exact ⟨_,_,rfl⟩
  | row s t z off len =>
   obtain ⟨ad,cap,hv,_⟩:=SZ aj;simp only[OY,Option.some.injEq]at hx;subst hx;exact ⟨ad,cap,hv⟩
  | nil =>
   simp only[OY,Option.some.injEq]at hx;subst hx;exact ⟨_,_,PM aj⟩
  | _=>simp [OY]at hx
 refine EL hm (u := .int .i64 n) ?_ (O0 _ _);simp [execOp,m9,resolve,invoke,builtin,bz,Builtin.len_,run_underlying hu,goInt]
theorem Vl (hm:BP B S w0 m) (hs:CP B S m ρ a.eval) {x':AP} (h:BI P num o.op (.gd x')=true) (hx:ρ x' = .nil):CU B S w0 P o a m (.val (.int .i64 0)):=by
 obtain ⟨x,t,e,m9,h1,hu⟩:=Aeo h;have bz:=PM (hx ▸ hs x x' h1);refine EL hm (u := .int .i64 0) ?_ (O0 _ _);simp [execOp,m9,resolve,invoke,builtin,bz,Builtin.cap_,run_underlying hu,goInt]
theorem Q8 (hs:CP B S m ρ a.eval) : ∀ {xs:List Operand} {ys:List AP},ED xs ys=true->xs.length=ys.length /\ ∀ (j:Nat) (x:Operand) (y:AP),xs[j]? = some x->ys[j]? = some y->CV B S m (ρ y) (a.eval x)
 | [],[],_=>⟨rfl,λ j x y h=>by simp at h⟩
 | x::r,y::l,h=>by
  simp only[ED,Bool.and_eq_true]at h;obtain ⟨ih1,pt⟩:=Q8 hs h.2;refine ⟨by simp [ih1],λ j x' y' hx hy => ?_⟩;cases j with
  | zero=>simp at hx hy;subst hx hy;exact hs _ _ h.1
  | succ j=>exact pt j x' y' (by simpa using hx) (by simpa using hy)
 | [],_::_,h=>by simp [ED]at h
 | _::_,[],h=>by simp [ED]at h
theorem tT (mx:Bool) (hs:CP B S m ρ a.eval) (w:World) : ∀ (xs:List Operand) (ys:List AP) (v:AV) (u:Value) (r:AV),ED xs ys=true->CV B S m v u->KQ mx v (ys.map ρ)=some r->(∃ k n,v = .int k n) -> ∃ k n,r = .int k n /\
  ((xs.map a.eval).foldlM (if mx then Builtin.max2 else Builtin.min2) u).run P w = .ok (.int k n) w
 | [],[],v,u,r,_,hc,hm,⟨k,n,hv⟩=>by
  simp only[List.map_nil,KQ,Option.some.injEq]at hm;subst hm hv;obtain rfl:=HQ hc;exact ⟨k,n,rfl,by simp⟩
 | x::xr,y::yr,v,u,r,he,hc,hm,⟨k,n,hv⟩=>by
  simp only[ED,Bool.and_eq_true]at he;simp only[List.map_cons,KQ]at hm;have hx:=hs x y he.1;subst hv;obtain rfl:=HQ hc;cases hy:ρ y with
  | int k' n' =>
   rw[hy]at hx hm;have hxe:=HQ hx;simp only[O1]at hm;obtain ⟨k2,n2,rfl,h2⟩:=tT mx hs w xr yr _ (.int k (if mx then (if n'>n then n' else n) else (if n'<n then n' else n))) r he.2 (O0 _ _) hm ⟨_,_,rfl⟩;refine ⟨k2,n2,rfl,?_⟩;simp only[List.map_cons,List.foldlM_cons,Sem.run_bind,hxe];cases mx
   ·simpa [Builtin.min2] using h2
   ·simpa [Builtin.max2] using h2
  | _=>rw[hy]at hm;simp [O1]at hm
 | [],_::_,_,_,_,he,_,_,_=>by simp [ED]at he
 | _::_,[],_,_,_,he,_,_,_=>by simp [ED]at he
theorem Ya (hm:BP B S w0 m) (hs:CP B S m ρ a.eval) {mx:Bool} {q9:List AP} (h:BI P num o.op (.mm mx q9)=true) {v r:AV} {l:List AV} (hx:q9.map ρ=v::l) (hv:KQ mx v l=some r) (hi : ∃ k n,v = .int k n):CU B S w0 P o a m (.val r):=by
 obtain ⟨xs,ts,m9,he⟩:=qI h;cases q9 with
 | nil=>simp at hx
 | cons y yr =>
  simp only[List.map_cons,List.cons.injEq]at hx;obtain ⟨rfl,rfl⟩:=hx;obtain ⟨xl⟩:=xs;cases xl with
  | nil=>simp [ED]at he
  | cons x xr =>
   simp only[ED,Bool.and_eq_true]at he;obtain ⟨k,n,rfl,w4⟩:=tT (P:=P) mx hs m.w xr yr (ρ y) (a.eval x) r he.2 (hs x y he.1) hv hi;refine EL hm (u := .int k n) ?_ (O0 _ _);cases mx
   ·simp only[execOp,m9,resolve,invoke,builtin,Builtin.min_,Sem.run_bind,Sem.run_pure,Result.andThen_ok]at w4 ⊢
    simp at w4 ⊢;rw[w4];rfl
   ·simp only[execOp,m9,resolve,invoke,builtin,Builtin.max_,Sem.run_bind,Sem.run_pure,Result.andThen_ok]at w4 ⊢
    simp at w4 ⊢;rw[w4];rfl
end
end Go.g6

namespace Go.g6
open Go.RowKit
section
variable {B:Nat} {S:Nat->Prop} {w0:World} {m:M}
variable {P:Program} {num:Nat->Nat} {o:Oper} {a:Act} {ρ:AP->AV}
def HC (ρ:AP->AV) (d:Nat):Option AP->Option Int
 | none=>some d
 | some y=>match ρ y with | .int _ n=>some n|_=>none
theorem ZV (ty e:TypeId) (inf:TypeInfo) (hu:P.underlying ty=some (.slice e)) (hi:P.info? e=some inf) (hs:CP B S m ρ a.eval) {lo v9:Option Operand} {px Gg:Option AP} (pg:N8 lo px=true) (Iu:N8 v9 Gg=true)
  (ad:Option Addr) (len cap:Nat) (l h:Int) (hl:HC ρ 0 px=some l) (hh:HC ρ len Gg=some h) (h0:0<=l) (hlh:l<=h) (hhl:h<=len) (pf:len<=cap) (w:World) :
  (Instr.sliceAt ty (.slice ad len cap) (lo.map a.eval) (v9.map a.eval) none).run P w = .ok (.slice (if cap=l.toNat then ad else ad.map (·.add (l.toNat*inf.size))) (h.toNat-l.toNat) (cap-l.toNat)) w:=by
 have yk : ∀ {x:Option Operand} {y:Option AP} {d:Nat} {n:Int},N8 x y=true->HC ρ d y=some n->(x=none/\y=none/\n=d) \/ ∃ x' k,x=some x'/\a.eval x' = .int k n:=by
  intro x y d n oi hb;cases x with
  | none=>cases y with
   | none=>simp [HC]at hb;exact .inl ⟨rfl,rfl,hb.symm⟩
   | some y=>simp [N8]at oi
  | some x=>cases y with
   | none=>simp [N8]at oi
   | some y =>
    simp only[N8]at oi;simp only[HC]at hb;cases hy:ρ y with
    | int k q =>
     rw[hy]at hb;simp only[Option.some.injEq]at hb;subst hb;exact .inr ⟨x,k,rfl,HQ (hy ▸ hs x y oi)⟩
    | _=>rw[hy]at hb;cases hb
 have Ar:h<=(cap:Int):=by omega
 unfold Instr.sliceAt Instr.slice Instr.sliceBounds;rcases yk pg hl with ⟨rfl,_,rfl⟩|⟨x1,k1,rfl,e1⟩<;>rcases yk Iu hh with ⟨rfl,_,rfl⟩|⟨x2,k2,rfl,e2⟩
 ·simp [run_underlying hu,sizeOf,typeInfo,hi]
 ·have qi:=run_sliceBound (P:=P) w k2 h cap .sliceAcap (by omega) Ar
  simp [run_underlying hu,sizeOf,typeInfo,hi,e2,qi]
 ·have w9:=run_sliceBound (P:=P) w k1 l len .sliceB h0 (by omega)
  simp [run_underlying hu,sizeOf,typeInfo,hi,e1,w9]
 ·have qi:=run_sliceBound (P:=P) w k2 h cap .sliceAcap (by omega) Ar
  have w9:=run_sliceBound (P:=P) w k1 l h.toNat .sliceB h0 (by omega);simp [run_underlying hu,sizeOf,typeInfo,hi,e1,e2,qi,w9]
theorem Ye (hm:BP B S w0 m) (hs:CP B S m ρ a.eval) {a9:Nat} {x':AP} {px v9:Option AP} (h:BI P num o.op (.jg a9 x' px v9)=true) (hx:ρ x' = .nil) (hl:HC ρ 0 px=some 0) (hh:HC ρ 0 v9=some 0):CU B S w0 P o a m (.val .nil):=by
 obtain ⟨ty,x,lo,ub,e,inf,m9,h1,h2,h3,hu,hi,ag,n9⟩:=eB h;have bz:=PM (hx ▸ hs x x' h1);have w4:=ZV ty e inf hu hi hs h2 h3 none 0 0 0 0 hl hh (by omega) (by omega) (by omega) (by omega) m.w;refine EL hm (u := .slice none 0 0) ?_ (.ca (.one .nil));simp only[execOp,m9,bz,Sem.run_bind,Option.map_none,w4];rfl
theorem Yf (hm:BP B S w0 m) (hs:CP B S m ρ a.eval) {a9:Nat} {x':AP} {px v9:Option AP} (h:BI P num o.op (.jg a9 x' px v9)=true) {s t z off len:Nat} {l u:Int} (hx:ρ x' = .row s t z off len) (hl:HC ρ 0 px=some l) (hh:HC ρ len v9=some u) (h0:0<=l) (Iy:l<=u) (kn:u<=len) (hz:z=a9) :
  CU B S w0 P o a m (.val (.row s t z (off+l.toNat) (u.toNat-l.toNat))):=by
 obtain ⟨ty,x,lo,ub,e,inf,m9,h1,h2,h3,hu,hi,ag,n9⟩:=eB h;obtain ⟨ad,cap,bz,ht,ep,pf,ha,hb⟩:=SZ (hx ▸ hs x x' h1);have w4:=ZV ty e inf hu hi hs h2 h3 ad len cap l u hl hh h0 Iy kn pf m.w;refine EL hm ?_ (.ca (.one (.row s t z (off+l.toNat) (u.toNat-l.toNat) (if cap=l.toNat then ad else ad.map (·.add (l.toNat*inf.size))) (cap-l.toNat) ht ep (by omega) (λ hp => ?_) λ b n6 => ?_)))
 ·simp only[execOp,m9,bz,Sem.run_bind,Option.map_none,w4]
  rfl
 ·rw[if_neg (by omega)]
  obtain ⟨Dp,rfl⟩:=Option.isSome_iff_exists.1 (ha (by omega));rfl
 ·obtain ⟨tc,df⟩:=hb b n6
  refine ⟨tc,?_⟩;rcases df with ⟨da,gi⟩|⟨g,arr,e',hg,mi,Is,hle⟩
  ·exact .inl ⟨by omega,by omega⟩
  ·by_cases hc:cap=l.toNat
   ·exact .inl ⟨by omega,by omega⟩
   ·refine .inr ⟨g,arr,e',hg,?_,Is,?_⟩
    ·rw[if_neg hc,mi,ag,hz]
     simp only[Option.map_some,HB,Nat.add_mul]
    ·rw[show off+l.toNat+(cap-l.toNat)=off+cap by omega]
     exact hle
theorem Yg (hm:BP B S w0 m) (hs:CP B S m ρ a.eval) {a9:Nat} {x':AP} {px v9:Option AP} (h:BI P num o.op (.jg a9 x' px v9)=true) {lt:Bool} {es:List (List AV)} {l u:Int} (hx:ρ x' = .sl lt es) (hl:HC ρ 0 px=some l) (hh:HC ρ es.length v9=some u) (h0:0<=l) (Iy:l<=u) (kn:u<=es.length) (hz : ∀ e∈es,e.length=a9) :
  CU B S w0 P o a m (.val (.sl lt ((es.take u.toNat).drop l.toNat))):=by
 obtain ⟨ty,x,lo,ub,e,inf,m9,h1,h2,h3,hu,hi,ag,n9⟩:=eB h;have ku:=X3 (hx ▸ hs x x' h1);generalize bz:a.eval x=v at ku;cases ku with
 | ke _ ad cap =>
  have w4:=ZV ty e inf hu hi hs h2 h3 ad 0 cap l u hl hh h0 Iy (by simpa using kn) (by omega) m.w;simp only[List.length_nil]at kn;rw[show (([]:List (List AV)).take u.toNat).drop l.toNat=[] by simp];refine EL hm (u := .slice (if cap=l.toNat then ad else ad.map (·.add (l.toNat*inf.size))) 0 (cap-l.toNat)) ?_ (.ca (.one (.rd (.ke lt _ _))));simp only[execOp,m9,bz,Sem.run_bind,Option.map_none,w4];rw[show u.toNat-l.toNat=0 by omega];rfl
 | sl _ _ b ob z7 cap uu xe hp hR bq iq hc hr =>
  have w4:=ZV ty e inf hu hi hs h2 h3 (some ⟨b,ob,none⟩) es.length cap l u hl hh h0 Iy kn bq m.w;have Hu:z7=a9:=by
   cases es with
   | nil=>exact absurd rfl xe
   | cons q r=>rw[<-iq q (by simp),hz q (by simp)]
  subst Hu;by_cases ep:u.toNat-l.toNat=0
  ·have:(es.take u.toNat).drop l.toNat=[]:=by
    apply List.eq_nil_of_length_eq_zero;simp;omega
   rw[this];refine EL hm (u := .slice (if cap=l.toNat then some ⟨b,ob,none⟩ else (some (⟨b,ob,none⟩:Addr)).map (·.add (l.toNat*inf.size))) 0 (cap-l.toNat)) ?_ (.ca (.one (.rd (Rd.ke lt _ _))));simp only[execOp,m9,bz,Sem.run_bind,Option.map_none,w4];rw[ep];rfl
  ·have hlen:((es.take u.toNat).drop l.toNat).length=u.toNat-l.toNat:=by simp;omega
   have s9 : ∀ i,i<u.toNat-l.toNat->((es.take u.toNat).drop l.toNat)[i]? = es[l.toNat+i]? := λ i v9=>by
    rw[List.getElem?_drop,List.getElem?_take,if_pos (by omega)]
   refine EL hm (u := .slice (some ⟨b,ob+l.toNat*z7,none⟩) ((es.take u.toNat).drop l.toNat).length (cap-l.toNat)) ?_ (.ca (.one (.rd (.sl lt _ b (ob+l.toNat*z7) z7 (cap-l.toNat) (λ i j=>uu (l.toNat+i) j) (λ e=>ep (by rw[<-hlen,e];rfl)) hp hR (by rw[hlen];omega) (λ q hq=>iq q (List.mem_of_mem_take (List.mem_of_mem_drop hq))) (λ i q v9 j c hj => ?_) (λ i q v9 j c hj => ?_)))))
   ·simp only[execOp,m9,bz,Sem.run_bind,Option.map_none,w4]
    rw[if_neg (by omega),hlen,ag];simp only[Option.map_some,HB];rfl
   ·have au:i<u.toNat-l.toNat:=by rw[<-hlen];exact (zS v9).1
    rw[s9 i au]at v9;rw[show ob+l.toNat*z7+(i*z7+j)=ob+((l.toNat+i)*z7+j) by rw[Nat.add_mul];omega];exact hc _ q v9 j c hj
   ·have au:i<u.toNat-l.toNat:=by rw[<-hlen];exact (zS v9).1
    rw[s9 i au]at v9;exact hr _ q v9 j c hj
structure T8 (B:Nat) (S:Nat->Prop) (m:M) (a9:Nat) (ys:List (List AV)) (ad:Option Addr) (news:List Value):Prop where
 len:news.length=ys.length*a9
 cells : ∀ b,ad=some b -> ∀ j v,news[j]? = some v->m.w.cell? (b.add j)=some v
 some_:ys≠[]->ad.isSome=true
 rel : ∀ i cs,ys[i]? = some cs -> ∀ j c,cs[j]? = some c -> ∃ u,news[i*a9+j]? = some u/\CC B S m c u
theorem Uq (a9 i j:Nat) (h:j<a9):(i*a9+j)/a9=i/\(i*a9+j)%a9=j:=by
 constructor
 ·rw[Nat.add_comm,Nat.add_mul_div_right _ _ (by omega),Nat.div_eq_of_lt h,Nat.zero_add]
 ·rw[Nat.add_comm,Nat.add_mul_mod_self_right,Nat.mod_eq_of_lt h]
theorem cR (hm:BP B S w0 m) {av:AV} {v:Value} (hc:CV B S m av v) {ys:List (List AV)} (he:EM m.own av=some ys) {a9:Nat} (hz : ∀ e∈ys,e.length=a9) (h0:0<a9) :
  ∃ ad cap news,v = .slice ad ys.length cap/\T8 B S m a9 ys ad news:=by
 cases av with
 | sl l es =>
  simp only[EM,Option.some.injEq]at he;subst he;cases X3 hc with
  | ke _ ad cap=>exact ⟨ad,cap,[],rfl,by simp,λ b _ j v hv=>by simp at hv,λ h=>absurd rfl h,λ i cs hi=>by simp at hi⟩
  | sl _ _ b ob z7 cap uu xe hp hR bq iq u9 hr =>
   have Hu:z7=a9:=by
    cases es with
    | nil=>exact absurd rfl xe
    | cons q r=>rw[<-iq q (by simp),hz q (by simp)]
   subst Hu;refine ⟨some ⟨b,ob,none⟩,cap,(List.range (es.length*z7)).map (λ k=>uu (k/z7) (k%z7)),rfl,by simp,λ b' n6 j v hv => ?_,λ_=>rfl,λ i cs hi j c hj => ?_⟩
   ·obtain rfl:(⟨b,ob,none⟩:Addr)=b':=by simpa using n6
    rw[List.getElem?_map]at hv;have ew:j<es.length*z7:=by
     rcases Nat.lt_or_ge j (es.length*z7) with h|h
     ·exact h
     ·rw[List.getElem?_eq_none (by simpa using h)]at hv;cases hv
    rw[List.getElem?_range ew]at hv;simp only[Option.map_some,Option.some.injEq]at hv;subst hv;have hd:j/z7<es.length:=Nat.div_lt_of_lt_mul (by rw[Nat.mul_comm];exact ew);have Lz:j%z7<z7:=Nat.mod_lt _ h0;have fu:(es[j/z7]).length=z7:=iq _ (List.getElem_mem hd);have:=u9 (j/z7) _ (zE hd) (j%z7) _ (zE (by rw[fu];exact Lz))
    rw[HB,<-this];congr 2;have:=Nat.div_add_mod j z7
    rw[Nat.mul_comm]at this;omega
   ·have ew:j<z7:=by rw[<-iq cs (zM hi)];exact (zS hj).1
    have au:i<es.length:=(zS hi).1;have o7:i*z7+j<es.length*z7:=by
     have:(i+1)*z7<=es.length*z7:=zR _ au
     rw[Nat.succ_mul]at this;omega
    obtain ⟨e1,e2⟩:=Uq z7 i j ew;refine ⟨uu i j,?_,.rd (hr i cs hi j c hj)⟩;rw[List.getElem?_map,List.getElem?_range o7];simp [e1,e2]
 | nil =>
  simp only[EM,Option.some.injEq]at he;subst he;exact ⟨none,0,[],PM hc,by simp,λ b hb=>(by cases hb),λ h=>absurd rfl h,λ i cs hi=>by simp at hi⟩
 | row s t z off len =>
  obtain ⟨ad,cap,hv,ht,ep,pf,ha,hb⟩:=SZ hc;simp only[EM]at he;cases s9:m.own.get s t with
  | none=>simp [s9]at he
  | some b =>
   simp only[s9]at he;split at he
   ·rename_i hle
    obtain ⟨hle,tc⟩:=hle;obtain rfl:=Option.some.inj he;have uf:((b.es.drop off).take len).length=len:=by simp;omega
    obtain ⟨_,df⟩:=hb b s9;by_cases da:len=0
    ·subst da
     refine ⟨ad,cap,[],by simpa using hv,by simp,λ b _ j v hv=>by simp at hv,λ h=>absurd (by simp) h,λ i cs hi=>by simp at hi⟩
    ·rcases df with ⟨h1,_⟩|⟨g,arr,e',hg,mi,Is,AmM⟩
     ·exact absurd h1 da
     ·obtain ⟨iq,dz⟩:=hm.g8 s t b s9
      rw[hg]at dz;obtain ⟨hB,vt,e2,Au,ax⟩:=dz;rw[Is]at Au;obtain ⟨rfl,rfl⟩:arr=vt/\e'=e2:=by simpa using Au
      have hez:a9=z:=by
       have o7:off<b.es.length:=by omega
       have h1:b.es[off]∈(b.es.drop off).take len:=by
        have:((b.es.drop off).take len)[0]? = some b.es[off]:=by
         rw[List.getElem?_take,if_pos (by omega),List.getElem?_drop];simp [o7]
        exact zM this
       rw[<-hz _ h1,iq _ (List.getElem_mem o7),tc]
      subst hez;have ag:off*a9+len*a9<=arr.size:=by
       have:(off+len)*a9<=(off+cap)*a9:=zR _ (by omega)
       rw[Nat.add_mul]at this;omega
      refine ⟨ad,cap,(arr.toList.drop (off*a9)).take (len*a9),by rw[uf];exact hv,by rw[uf];simp;omega,λ b' n6 j v nk => ?_,λ_=>by rw[mi];rfl,λ i cs hi j c hj => ?_⟩
      ·rw[mi]at n6
       obtain rfl:(⟨g,off*a9,none⟩:Addr)=b':=by simpa using n6
       rw[List.getElem?_take]at nk;split at nk
       ·rw[List.getElem?_drop]at nk
        rw[HB,XR Is];simpa using nk
       ·cases nk
      ·rw[List.getElem?_take]at hi
       split at hi
       ·rename_i au
        rw[List.getElem?_drop]at hi;have ew:j<a9:=by rw[<-tc,<-iq cs (zM hi)];exact (zS hj).1
        obtain ⟨u,hu,ib⟩:=ax (off+i) cs hi j c hj;refine ⟨u,?_,ib⟩;have o7:i*a9+j<len*a9:=by
         have:(i+1)*a9<=len*a9:=zR _ au
         rw[Nat.succ_mul]at this;omega
        rw[List.getElem?_take,if_pos o7,List.getElem?_drop,<-hu,tc];simp only[Array.getElem?_toList];congr 1;rw[Nat.add_mul];omega
       ·cases hi
   ·cases he
 | dm v' =>
  cases v' with
  | bool b =>
   simp only[EM,Option.some.injEq]at he;subst he;obtain ⟨ad,cap,hv,_⟩:=lS hc;exact ⟨ad,cap,[],hv,by simp,λ b' n6 j v nk=>by simp at nk,λ h=>absurd rfl h,λ i cs hi=>by simp at hi⟩
  | _=>simp [EM]at he
 | _=>simp [EM]at he
theorem T8.one {a9:Nat} {ys:List (List AV)} {ad:Option Addr} {news:List Value} (h:T8 B S m a9 ys ad news) (h0:0<a9) (hz : ∀ e∈ys,e.length=a9) : ∀ u∈news,u.oneCell'=true:=by
 intro u hu;obtain ⟨k,hk,rfl⟩:=List.getElem_of_mem hu;rw[h.len]at hk;have hd:k/a9<ys.length:=Nat.div_lt_of_lt_mul (by rw[Nat.mul_comm];exact hk);have Lz:k%a9<a9:=Nat.mod_lt _ h0;have fu:(ys[k/a9]).length=a9:=hz _ (List.getElem_mem hd);obtain ⟨u',mu,hc⟩:=h.rel (k/a9) _ (zE hd) (k%a9) _ (zE (by rw[fu];exact Lz));have km:k/a9*a9+k%a9=k:=by
  have:=Nat.div_add_mod k a9
  rw[Nat.mul_comm]at this;exact this
 rw[km]at mu;obtain rfl:news[k]=u':=by
  have:=(zS mu).2
  exact this
 exact hc.one
theorem T8.src {a9:Nat} {ys:List (List AV)} {ad:Option Addr} {news:List Value} (h:T8 B S m a9 ys ad news) (h0:0<a9) (hz : ∀ e∈ys,e.length=a9) {t e:TypeId} (hu:P.underlying t=some (.slice e)) (cap:Nat):Src P a9 t (.slice ad ys.length cap) ys.length news m.w:=by
 cases ad with
 | none =>
  have xu:ys=[]:=by
   cases ys with
   | nil=>rfl
   | cons y r=>exact absurd (h.some_ (by simp)) (by simp)
  subst xu;have hn:news=[]:=List.eq_nil_of_length_eq_zero (by simpa using h.len);subst hn;exact Src.ofNil m.w hu cap
 | some b=>exact Src.ofSlice m.w hu b ys.length cap news h.len (h.cells b rfl) (h.one h0 hz)
theorem Afg (arr:Array Value) (off:Nat) (news:List Value) (h:off+news.length<=arr.size) (p:Nat):(arr.toList.take off++news++arr.toList.drop (off+news.length)).toArray[p]? = if p<off then arr[p]? else if p<off+news.length then news[p-off]? else arr[p]? := by
 simp only[List.getElem?_toArray];rw[iA _ _ _ (by simpa using h)];simp only[Array.getElem?_toList]
theorem AfZ (t tx e ex:TypeId) (i:TypeInfo) (ht:P.underlying t=some (.slice e)) (hx:P.underlying tx=some (.slice ex)) (hi:P.info? e=some i) (g off ru uk:Nat) (x:Value) (n:Nat) (news:List Value) (w:World) (hs:Src P i.size tx x n news w) (ja:ru+n<=uk) (arr:Array Value) (e':TypeId)
  (hh:w.heap[g]? = some (.cells arr e' (0,0))) (ag:off+ru*i.size+news.length<=arr.size) (ty:TypeId) :
  (Builtin.append_ #[t,tx] ty #[.slice (some ⟨g,off,none⟩) ru uk,x]).run P w = .ok (.slice (some ⟨g,off,none⟩) (ru+n) uk) (w.setRow g (arr.toList.take (off+ru*i.size)++news++arr.toList.drop (off+ru*i.size+news.length)).toArray):=by
 have m4:=run_storeCells_at (P:=P) g (off+ru*i.size) e' news 0 arr w hh (by omega) hs.one;simp only[Nat.add_zero]at m4;simp [Builtin.append_,run_underlying ht,run_underlying hx,sizeOf,typeInfo,hi,hs.len,ja,hs.cells,HB,m4]
theorem tQ (t tx e ex:TypeId) (i:TypeInfo) (ht:P.underlying t=some (.slice e)) (hx:P.underlying tx=some (.slice ex)) (hi:P.info? e=some i) (ad:Option Addr) (uk:Nat) (x:Value) (w:World) (hs:Src P i.size tx x 0 [] w) (ty:TypeId) :
  (Builtin.append_ #[t,tx] ty #[.slice ad 0 uk,x]).run P w = .ok (.slice ad 0 uk) w:=by
 have hc:=hs.cells;cases ad<;>simp [Builtin.append_,run_underlying ht,run_underlying hx,sizeOf,typeInfo,hi,hs.len,hc,storeCells]
theorem TV {x y:Operand} {t tx:TypeId} (m9:o.op = .call ⟨.builtin .append,#[x,y],#[t,tx]⟩) {u:Value} {w w':World} (h:(Builtin.append_ #[t,tx] o.type #[a.eval x,a.eval y]).run P w = .ok u w'):(execOp a.eval o).run P w = .ok (.value u) w':=by
 simp [execOp,m9,resolve,invoke,builtin,h]
theorem Zr (fg news:List Value) (z:Array Value) (k p:Nat) (h:p<fg.length+news.length):((fg++news).toArray++Builtin.zeroCells z k)[p]? = (fg++news)[p]? := by
 rw[Array.getElem?_append_left (by simpa using h)];simp
theorem AfS {a9 len:Nat} {xs ys:List (List AV)} {fg news:List Value} (zw:xs.length=len) (Jb:fg.length=len*a9) (hzx : ∀ e∈xs,e.length=a9)
  (hx : ∀ i cs,xs[i]? = some cs -> ∀ j c,cs[j]? = some c -> ∃ u,fg[i*a9+j]? = some u/\CC B S m c u)
  (hy : ∀ i cs,ys[i]? = some cs -> ∀ j c,cs[j]? = some c -> ∃ u,news[i*a9+j]? = some u/\CC B S m c u) :
  ∀ i cs,(xs++ys)[i]? = some cs -> ∀ j c,cs[j]? = some c -> ∃ u,(fg++news)[i*a9+j]? = some u/\CC B S m c u:=by
 intro i cs hi j c hj;by_cases au:i<len
 ·rw[List.getElem?_append_left (by omega)]at hi
  obtain ⟨u,hu,hc⟩:=hx i cs hi j c hj;exact ⟨u,by rw[List.getElem?_append_left (by have:=(zS hu).1;omega)];exact hu,hc⟩
 ·rw[List.getElem?_append_right (by omega),zw]at hi
  obtain ⟨u,hu,hc⟩:=hy (i-len) cs hi j c hj;refine ⟨u,?_,hc⟩;have e1:i*a9=len*a9+(i-len)*a9:=by rw[<-Nat.add_mul];congr 1;omega
  rw[List.getElem?_append_right (by omega),<-hu];congr 1;omega
theorem rR {s z n cap:Nat} {es:List (List AV)} {w':World} {g t:Nat} {arr:Array Value} {e:TypeId} (hz:0<z) (hn:n<=cap) (hg:w'.heap[g]? = some (.cells arr e (0,0))) (hc:cap*z<=arr.size) :
  CV B S ⟨j7 m s (some g),m.own.put s (((m.own s).v7 t none).new ⟨z,es⟩),w'⟩ (.row s (m.own.j6 s) z 0 n) (.slice (some ⟨g,0,none⟩) n cap):=by
 refine .ca (.one (.row s (m.own.j6 s) z 0 n _ cap ?_ hz hn (λ_=>rfl) λ b' n6=>⟨?_,.inr ⟨g,arr,e,?_,by simp,hg,by simpa using hc⟩⟩))
 ·show _<AH.j6 _ s
  rw[XZ];simp
 ·change AH.get _ s _=some b' at n6
  rw[RG,if_pos ⟨rfl,rfl⟩]at n6;obtain rfl:(⟨z,es⟩:D7)=b':=by simpa using n6
  rfl
 ·simp [j7]
theorem So (hm:BP B S w0 m) (ob:Obj):Below B w0 (m.w.drew.alloc ob):=hm.below.drew.alloc (by simpa using hm.size) ob
theorem Ux (hm:BP B S w0 m) (hs:CP B S m ρ a.eval) {s a9 bytes:Nat} {x' y':AP} (h:BI P num o.op (.app s a9 bytes x' y')=true) {ys:List (List AV)} (hy:EM m.own (ρ y')=some ys) (hz : ∀ e∈ys,e.length=a9) {s' t len:Nat} {b:D7} (hx:ρ x' = .row s' t a9 0 len) (s9:m.own.get s' t=some b)
  (tc:b.a9=a9) (hle:len<=b.es.length) (ja:(len+ys.length)*bytes<=D5) (Dq:len+ys.length<=9223372036854775807) :
  CU B S w0 P o a m (.dp (.row s' (m.own.j6 s') a9 0 (len+ys.length)) (m.own.put s' (((m.own s').v7 t none).new ⟨a9,b.es.take len++ys⟩))):=by
 obtain ⟨x,y,ty,e,i,z,tx,ex,m9,h1,h2,hu,hi,ag,tz,ep,iq,n9,Bh⟩:=qF h;have h0:0<a9:=Nat.pos_of_ne_zero n9;obtain ⟨ad,cap,bz,ht,_,pf,ha,hb⟩:=SZ (hx ▸ hs x x' h1);obtain ⟨Bp,lg,news,yo,fu⟩:=cR hm (hs y y' h2) hy hz h0;have ud:Src P i.size tx (.slice Bp ys.length lg) ys.length news m.w:=by rw[ag];exact fu.src h0 hz Bh lg
 obtain ⟨ij,dz⟩:=hm.g8 s' t b s9;obtain ⟨_,df⟩:=hb b s9;have ct:(b.es.take len).length=len:=by simp;omega
 have Bi : ∀ q∈b.es.take len++ys,q.length=a9:=λ q hq=>by
  rcases List.mem_append.1 hq with hq|hq
  ·rw[<-tc];exact ij q (List.mem_of_mem_take hq)
  ·exact hz q hq
 intro K Q hK;by_cases wq:len+ys.length<=cap
 ·rcases df with ⟨da,gi⟩|⟨g,arr,e',hg,mi,hh,Kz⟩
  ·have xu:ys=[]:=List.eq_nil_of_length_eq_zero (by omega)
   subst xu;subst da gi;have Gp:news=[]:=List.eq_nil_of_length_eq_zero (by simpa using fu.len);subst Gp;have w4:=tQ ty tx e ex i hu Bh hi ad 0 (.slice Bp 0 lg) m.w (by simpa using ud) o.type;obtain ⟨k1,k2⟩:=fQ hm s' t b ⟨a9,b.es.take 0++[]⟩ s9 none m.w hm.below (Nat.le_refl _) (λ_ _ _=>rfl) (by simp) (by simp) (by simp);refine OH (TV m9 (by rw[bz,yo];simpa using w4)) (hK _ ⟨j7 m s' none,m.own.put s' (((m.own s').v7 t none).new ⟨a9,b.es.take 0++[]⟩),m.w⟩ rfl k1 k2 (.ca (.one (.row s' (m.own.j6 s') a9 0 0 ad 0 ?_ h0 (Nat.le_refl _) (λ h=>by omega) λ b' n6=>⟨?_,.inl ⟨rfl,rfl⟩⟩))))
   ·show _<AH.j6 _ s'
    rw[XZ];simp
   ·change AH.get _ s' _=some b' at n6
    rw[RG,if_pos ⟨rfl,rfl⟩]at n6;obtain rfl:(⟨a9,b.es.take 0++[]⟩:D7)=b':=by simpa using n6
    rfl
  ·have Cd:ad=some ⟨g,0,none⟩:=by simpa using mi
   rw[hg]at dz;obtain ⟨hB,vt,e2,Au,ax⟩:=dz;rw[hh]at Au;obtain ⟨rfl,rfl⟩:arr=vt/\e'=e2:=by simpa using Au
   have Dy:news.length=ys.length*a9:=fu.len;have hbound:len*a9+news.length<=arr.size:=by
    have:(len+ys.length)*a9<=(0+cap)*a9:=zR _ (by omega)
    rw[Nat.add_mul]at this;omega
   have w4:=AfZ ty tx e ex i hu Bh hi g 0 len cap (.slice Bp ys.length lg) ys.length news m.w ud wq arr e' hh (by rw[ag];omega) o.type;rw[ag,Nat.zero_add]at w4;generalize nx:(arr.toList.take (len*a9)++news++arr.toList.drop (len*a9+news.length)).toArray=x9 at w4;have fy : ∀ p,x9[p]? = if p<len*a9 then arr[p]? else if p<len*a9+news.length then news[p-len*a9]? else arr[p]? := λ p=>by rw[<-nx];exact Afg arr (len*a9) news hbound p
   have rb:x9.size=arr.size:=by rw[<-nx];simp;omega
   obtain ⟨k1,k2⟩:=fQ hm s' t b ⟨a9,b.es.take len++ys⟩ s9 (some g) (m.w.setRow g x9) (kL hm hB x9) (by simp) (λ k _ xe=>setRow_other _ _ _ _ (λ e=>xe (e ▸ hg))) Bi (by simp) (λ g' jk=>by
    obtain rfl:g=g':=by simpa using jk
    refine ⟨hB,.inr hg,x9,e',setRow_heap _ _ _ _ _ _ hh,λ i' cs v9 j c hj => ?_⟩;show ∃ u,x9[i'*a9+j]? = some u/\_;by_cases au:i'<len
    ·rw[List.getElem?_append_left (by omega),List.getElem?_take,if_pos au]at v9
     have ew:j<a9:=by rw[<-tc,<-ij cs (zM v9)];exact (zS hj).1
     obtain ⟨u,mu,ib⟩:=ax i' cs v9 j c hj;refine ⟨u,?_,ib⟩;have:(i'+1)*a9<=len*a9:=zR _ au
     rw[Nat.succ_mul]at this;rw[fy,if_pos (by omega),<-mu,tc]
    ·rw[List.getElem?_append_right (by omega),ct]at v9
     obtain ⟨u,mu,ib⟩:=fu.rel (i'-len) cs v9 j c hj;refine ⟨u,?_,ib⟩;have kn:=(zS mu).1;have e1:i'*a9=len*a9+(i'-len)*a9:=by rw[<-Nat.add_mul];congr 1;omega
     rw[fy,if_neg (by omega),if_pos (by omega),<-mu];congr 1;omega)
   exact OH (TV m9 (by rw[bz,yo,Cd];exact w4)) (hK _ ⟨j7 m s' (some g),m.own.put s' (((m.own s').v7 t none).new ⟨a9,b.es.take len++ys⟩),m.w.setRow g x9⟩ rfl k1 k2 (rR h0 wq (setRow_heap _ _ _ _ _ _ hh) (by rw[rb];simpa using Kz)))
 ·have As:cap<len+ys.length:=by omega
  obtain ⟨fg,Jb,hold,Mm⟩ : ∃ fg:List Value,fg.length=len*a9/\(Builtin.firstCells i.size len (.slice ad len cap)).run P m.w.drew = .ok fg.toArray m.w.drew/\(∀ i' cs,(b.es.take len)[i']? = some cs -> ∀ j c,cs[j]? = some c -> ∃ u,fg[i'*a9+j]? = some u/\CC B S m c u):=by
   rcases df with ⟨da,gi⟩|⟨g,arr,e',hg,mi,hh,Kz⟩
   ·subst da
    refine ⟨[],by simp,?_,λ i' cs v9=>by simp at v9⟩;cases ad with
    | none=>exact run_firstCells_none m.w.drew i.size 0 0 cap
    | some Dp=>exact run_firstCells_some m.w.drew i.size 0 Dp 0 cap [] (by simp) (λ j v hv=>by simp at hv)
   ·have Cd:ad=some ⟨g,0,none⟩:=by simpa using mi
    rw[hg]at dz;obtain ⟨hB,vt,e2,Au,ax⟩:=dz;rw[hh]at Au;obtain ⟨rfl,rfl⟩:arr=vt/\e'=e2:=by simpa using Au
    have u9:len*a9<=arr.size:=by
     have:len*a9<=(0+cap)*a9:=zR _ (by omega)
     omega
    refine ⟨arr.toList.take (len*a9),by simp;omega,?_,λ i' cs v9 j c hj => ?_⟩
    ·rw[Cd]
     refine run_firstCells_some m.w.drew i.size len ⟨g,0,none⟩ len cap _ (by rw[ag];simp;omega) (λ j v hv => ?_);rw[List.getElem?_take]at hv;split at hv
     ·rw[HB,XR (w:=m.w.drew) (show m.w.heap[g]? = _ from hh)]
      simpa using hv
     ·cases hv
    ·rw[List.getElem?_take]at v9
     split at v9
     ·rename_i au
      have ew:j<a9:=by rw[<-tc,<-ij cs (zM v9)];exact (zS hj).1
      obtain ⟨u,mu,ib⟩:=ax i' cs v9 j c hj;refine ⟨u,?_,ib⟩;have:(i'+1)*a9<=len*a9:=zR _ au
      rw[Nat.succ_mul]at this;rw[List.getElem?_take,if_pos (by omega),<-mu,tc];simp
     ·cases v9
  have w4:=run_append_grow_src (P:=P) m.w ty tx o.type e i z hu hi ep ad len cap fg hold (.slice Bp ys.length lg) ys.length news ud As (by omega) (growslice_fits As (by rw[tz];exact ja));have Dy:news.length=ys.length*a9:=fu.len;have bq:len+ys.length<=grownCap m.w (len+ys.length) cap e:=grownCap_ge _ _ _ _;generalize Ge:grownCap m.w (len+ys.length) cap e=gc at w4 bq;have jr:=So hm (.cells ((fg++news).toArray++Builtin.zeroCells z.cells (gc-(len+ys.length))) e);have ml:(m.w.drew.alloc (.cells ((fg++news).toArray++Builtin.zeroCells z.cells (gc-(len+ys.length))) e)).heap[m.w.heap.size]? = some (.cells ((fg++news).toArray++Builtin.zeroCells z.cells (gc-(len+ys.length))) e (0,0)):=heap_alloc_new m.w.drew _;obtain ⟨k1,k2⟩:=fQ hm s' t b ⟨a9,b.es.take len++ys⟩ s9 (some m.w.heap.size) _ jr (by simp) (λ k hk _=>Below.heap_alloc m.w.drew _ k hk) Bi (by simp) (λ g' jk=>by
   obtain rfl:m.w.heap.size=g':=by simpa using jk
   refine ⟨hm.size,.inl (Nat.le_refl _),_,e,ml,λ i' cs v9 j c hj => ?_⟩;obtain ⟨u,mu,ib⟩:=AfS ct Jb (λ q hq=>by rw[<-tc];exact ij q (List.mem_of_mem_take hq)) Mm fu.rel i' cs v9 j c hj;refine ⟨u,?_,ib⟩;rw[Zr _ _ _ _ _ (by have:=(zS mu).1;simpa using this)];exact mu)
  refine OH (TV m9 (by rw[bz,yo];exact w4)) (hK _ ⟨j7 m s' (some m.w.heap.size),m.own.put s' (((m.own s').v7 t none).new ⟨a9,b.es.take len++ys⟩),_⟩ rfl k1 k2 (rR h0 bq ml ?_));have Bj:(Builtin.zeroCells z.cells (gc-(len+ys.length))).size=(gc-(len+ys.length))*a9:=by simp [Builtin.zeroCells,iq]
  rw[Array.size_append,Bj];simp only[List.size_toArray,List.length_append,Jb,Dy];rw[<-Nat.add_mul,<-Nat.add_mul];exact zR _ (by omega)
theorem Uw (hm:BP B S w0 m) (hs:CP B S m ρ a.eval) {s a9 bytes:Nat} {x' y':AP} (h:BI P num o.op (.app s a9 bytes x' y')=true) {ys:List (List AV)} (hy:EM m.own (ρ y')=some ys) (hz : ∀ e∈ys,e.length=a9) (hx:ρ x' = .nil)
  (ja:ys.length*bytes<=D5) (Dq:ys.length<=9223372036854775807) :
  CU B S w0 P o a m (.dp (.row s (m.own.j6 s) a9 0 ys.length) (m.own.put s ((m.own s).new ⟨a9,ys⟩))):=by
 obtain ⟨x,y,ty,e,i,z,tx,ex,m9,h1,h2,hu,hi,ag,tz,ep,iq,n9,Bh⟩:=qF h;have h0:0<a9:=Nat.pos_of_ne_zero n9;have bz:=PM (hx ▸ hs x x' h1);obtain ⟨Bp,lg,news,yo,fu⟩:=cR hm (hs y y' h2) hy hz h0;have ud:Src P i.size tx (.slice Bp ys.length lg) ys.length news m.w:=by rw[ag];exact fu.src h0 hz Bh lg
 intro K Q hK;by_cases xu:ys=[]
 ·subst xu
  have Gp:news=[]:=List.eq_nil_of_length_eq_zero (by simpa using fu.len);subst Gp;have w4:=tQ ty tx e ex i hu Bh hi none 0 (.slice Bp 0 lg) m.w (by simpa using ud) o.type;obtain ⟨k1,k2⟩:=wI hm s a9;refine OH (TV m9 (by rw[bz,yo];simpa using w4)) (hK _ ⟨j7 m s none,m.own.put s ((m.own s).new ⟨a9,[]⟩),m.w⟩ rfl k1 k2 (.ca (.one (.row s (m.own.j6 s) a9 0 0 none 0 ?_ h0 (Nat.le_refl _) (λ h=>by omega) λ b' n6=>⟨?_,.inl ⟨rfl,rfl⟩⟩))))
  ·show _<AH.j6 _ s
   rw[LB];simp
  ·change AH.get _ s _=some b' at n6
   rw[F7,if_pos ⟨rfl,rfl⟩]at n6;obtain rfl:(⟨a9,[]⟩:D7)=b':=by simpa using n6
   rfl
 ·have Mh:0<ys.length:=List.length_pos_iff.2 xu
  have w4:=run_append_grow_src (P:=P) m.w ty tx o.type e i z hu hi ep none 0 0 [] (run_firstCells_none m.w.drew i.size 0 0 0) (.slice Bp ys.length lg) ys.length news ud (by omega) (by omega) (growslice_fits (by omega) (by rw[tz,Nat.zero_add];exact ja));simp only[Nat.zero_add,List.nil_append]at w4;have Dy:news.length=ys.length*a9:=fu.len;have bq:ys.length<=grownCap m.w ys.length 0 e:=grownCap_ge _ _ _ _;generalize Ge:grownCap m.w ys.length 0 e=gc at w4 bq;have hd:Below m.w.heap.size m.w m.w.drew:=(Below.refl _ _).drew;obtain ⟨ni,ql⟩:=grow hm hd;obtain ⟨k1,k2⟩:=XG ni s ⟨a9,ys⟩ (news.toArray++Builtin.zeroCells z.cells (gc-ys.length)) e hz (λ i' cs v9 j c hj=>by
   obtain ⟨u,mu,ib⟩:=fu.rel i' cs v9 j c hj;refine ⟨u,?_,ql.cc ib⟩;have kn:=(zS mu).1;show (news.toArray++Builtin.zeroCells z.cells (gc-ys.length))[i'*a9+j]? = some u;rw[Array.getElem?_append_left (by simpa using kn)];simpa using mu)
  have Bj:(Builtin.zeroCells z.cells (gc-ys.length)).size=(gc-ys.length)*a9:=by simp [Builtin.zeroCells,iq]
  refine OH (TV m9 (by rw[bz,yo];exact w4)) (hK _ ⟨j7 ⟨m.ν,m.own,m.w.drew⟩ s (some m.w.drew.heap.size),m.own.put s ((m.own s).new ⟨a9,ys⟩),_⟩ rfl k1 (ql.trans k2) (fX (m:=⟨m.ν,m.own,m.w.drew⟩) h0 bq (heap_alloc_new m.w.drew _) ?_));rw[Array.size_append,Bj];simp only[List.size_toArray,Dy];rw[<-Nat.add_mul];exact zR _ (by omega)
theorem Af0 (w:World) (t tx ty e:TypeId) (i:TypeInfo) (z:Value) (ht:P.underlying t=some (.slice e)) {k:IntKind} (hk:P.underlying tx=some (.int k)) (hi:P.info? e=some i) (hz:i.zero=some z) (k':IntKind) (n:Nat)
  (hn:0<n) (Dq:(n:Int)<=9223372036854775807) (Oo:n*i.bytes<=D5) (n9:i.size≠0) :
  (Builtin.append_ #[t,tx] ty #[.slice none 0 0,.int k' n]).run P w =
   .ok (.slice (some ⟨w.heap.size,0,none⟩) n (grownCap w n 0 e))
    (w.drew.alloc (.cells (Builtin.zeroCells z.cells n++Builtin.zeroCells z.cells (grownCap w n 0 e-n)) e)):=by
 have wq:=growslice_fits (old:=0) (need:=n) (bytes:=i.bytes) hn Oo;have h1 : ¬ (n:Int)<0:=by omega
 have h2 : ¬ n=0:=by omega
 have h3 : ¬ (9223372036854775807<(n:Int)):=by omega
 have h5 : ¬ (281474976710656<Builtin.nextslicecap n 0*i.bytes):=by omega
 have h6 : ¬ ((281474976710656:Int)<(n:Int)*(i.bytes:Int)):=by
  have Jx:n*i.bytes<=140737488355328:=Oo;have h7:=Int.ofNat_le.2 Jx;rw[Int.natCast_mul]at h7;omega
 have hA : ∀ w':World,(asIntOf (.int k' n)).run P w' = .ok (k',(n:Int)) w':=λ w'=>rfl
 have e1:IntKind.i64.wrap (n:Int)=n:=by rw[IntKind.wrap_i64];omega
 generalize hw:IntKind.i64.wrap (n:Int)=q at e1;subst e1;simp [Builtin.append_,run_underlying ht,run_underlying hk,sizeOf,typeInfo,zeroValue,hi,hz,asInt,hA,hw,h1,h2,h3,h5,h6,n9,Question.forced,Builtin.firstCells,newRow,grownCap];intro h;rcases Nat.mul_eq_zero.1 h with h|h
 ·exact absurd h h2
 ·exact absurd h n9
theorem Uy (hm:BP B S w0 m) (hs:CP B S m ρ a.eval) {s a9 bytes:Nat} {x' y':AP} (h:BI P num o.op (.oy s a9 bytes x' y')=true) (hx:ρ x' = .nil) {k':IntKind} {n:Int} (hy:ρ y' = .int k' n)
  (hn:0<n) (ja:n*bytes<=D5) (Dq:n<=9223372036854775807) :
  CU B S w0 P o a m (.new s ⟨a9,[]⟩ (λ t => .row s t a9 0 n.toNat)):=by
 obtain ⟨x,y,ty,e,i,z,tx,k,m9,h1,h2,hu,hi,ag,tz,ep,iq,n9,Bh⟩:=Aee h;have h0:0<a9:=Nat.pos_of_ne_zero n9;have bz:=PM (hx ▸ hs x x' h1);have hey:=HQ (hy ▸ hs y y' h2);obtain ⟨q,rfl⟩ : ∃ q:Nat,n=q:=⟨n.toNat,by omega⟩;simp only[Int.toNat_natCast];intro K Q hK;have w4:=Af0 (P:=P) m.w ty tx o.type e i z hu Bh hi ep k' q (by omega) Dq (by
  rw[tz];rw[<-Int.natCast_mul]at ja;exact Int.ofNat_le.1 ja) (by rw[ag];exact n9)
 have bq:q<=grownCap m.w q 0 e:=grownCap_ge _ _ _ _;generalize Ge:grownCap m.w q 0 e=gc at w4 bq;have hd:Below m.w.heap.size m.w m.w.drew:=(Below.refl _ _).drew;obtain ⟨ni,ql⟩:=grow hm hd;obtain ⟨k1,k2⟩:=XG ni s ⟨a9,[]⟩ (Builtin.zeroCells z.cells q++Builtin.zeroCells z.cells (gc-q)) e (by simp) (λ i' cs v9 j c hj=>by simp at v9);have Bj : ∀ n,(Builtin.zeroCells z.cells n).size=n*a9:=λ n=>by simp [Builtin.zeroCells,iq]
 refine OH (TV m9 (by rw[bz,hey];exact w4)) (hK _ ⟨j7 ⟨m.ν,m.own,m.w.drew⟩ s (some m.w.drew.heap.size),m.own.put s ((m.own s).new ⟨a9,[]⟩),_⟩ rfl k1 (ql.trans k2) (fX (m:=⟨m.ν,m.own,m.w.drew⟩) h0 bq (heap_alloc_new m.w.drew _) ?_));rw[Array.size_append,Bj,Bj,<-Nat.add_mul];exact zR _ (by omega)
end
end Go.g6

namespace Go.g6
open Go.RowKit
section
variable {B:Nat} {S:Nat->Prop} {w0:World} {m:M}
variable {P:Program} {num:Nat->Nat} {o:Oper} {a:Act} {ρ:AP->AV}
structure GX (P:Program) (num:Nat->Nat) (C:Cl):Prop where
 wc : ∀ (f:Nat) (vs:List AV) (r:AV),C.pure f vs=some r -> ∀ (us:Array Value) (w:World),(callFunc (num f) us).run P w = .ok (.enter (num f) us) w
 qe : ∀ (f:Nat) (vs:List AV) (own:AH) (r:AV × AH),C.fp f vs own=some r -> ∀ (us:Array Value) (w:World),(callFunc (num f) us).run P w = .ok (.enter (num f) us) w
 pure : ∀ (f:Nat) (vs:List AV) (r:AV),C.pure f vs=some r -> ∀ (S:Nat->Prop) (w:World) (us:List Value),vs.length=us.length->(∀ (j:Nat) (c:AV) (v:Value),vs[j]? = some c->us[j]? = some v->CA w.heap.size S ⟨λ_ _=>none,AH.emp,w⟩ c v) ->
  Calls P (num f) us.toArray w λ e w' => ∃ u,e = .returned u/\Below w.heap.size w w'/\CV w.heap.size S ⟨λ_ _=>none,AH.emp,w'⟩ r u/\A7 r
 fp : ∀ (f:Nat) (vs:List AV) (own:AH) (r:AV) (n0:AH),C.fp f vs own=some (r,n0) -> ∀ (B:Nat) (S:Nat->Prop) (w0:World) (m:M) (us:List Value),m.own=own->BP B S w0 m->vs.length=us.length->(∀ (j:Nat) (c:AV) (v:Value),vs[j]? = some c->us[j]? = some v->CV B S m c v) ->
  Calls P (num f) us.toArray m.w λ e w' => ∃ u m',e = .returned u/\m'.w=w'/\m'.own=n0/\BP B S w0 m'/\DM B S m m'/\CV B S m' r u
 num:C.num=num
end
end Go.g6
