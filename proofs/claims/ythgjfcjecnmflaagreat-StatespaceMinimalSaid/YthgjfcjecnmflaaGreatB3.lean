/-
  What the checker has seen, operation by operation.
-/
import Derived.Test.YthgjfcjecnmflaaGreatB2
import Derived.Laws.StructEq
import Derived.ChangeKeysEq
import Derived.Laws.Slices
set_option linter.unusedSimpArgs false
set_option linter.unusedVariables false
set_option linter.unnecessarySimpa false
namespace Go.e8
section
variable {P:Program} {num:Nat->Nat} {op:Op}
theorem AfG {y:AR} (h:BA P num op (.a9 y)=true) : ∃ x,(op = .move x\/op = .assign x)/\BV x y=true:=by
 cases op with
 | move x=>exact ⟨x,.inl rfl,h⟩
 | assign x=>exact ⟨x,.inr rfl,h⟩
 | _=>exact Bool.noConfusion h
theorem AfP {s z:Nat} (h:BA P num op (.w9 s z)=true):(op = .move (.const (.slice none 0 0))\/op = .assign (.const (.slice none 0 0)))/\z≠0:=by
 simp only[BA,Bool.and_eq_true,bne_iff_ne]at h;refine ⟨?_,h.1⟩;have h2:=h.2;split at h2<;>simp_all
theorem AfH {c' a' b':AR} (h:BA P num op (.pick c' a' b')=true) : ∃ c a b,op = .pick c a b/\BV c c'=true/\BV a a'=true/\BV b b'=true:=by
 cases op with
 | pick c a b=>simp only[BA,Bool.and_eq_true]at h;exact ⟨c,a,b,rfl,h.1.1,h.1.2,h.2⟩
 | _=>exact Bool.noConfusion h
theorem Afq {f:BinOp} {x' y':AR} (h:BA P num op (.bin f x' y')=true) : ∃ t x y u,op = .binOp f t x y u/\BV x x'=true/\BV y y'=true:=by
 cases op with
 | binOp f' t x y u =>
  simp only[BA,Bool.and_eq_true,beq_iff_eq]at h;exact ⟨t,x,y,u,by rw[h.1.1],h.1.2,h.2⟩
 | _=>exact Bool.noConfusion h
theorem Afp {ne:Bool} {x' y':AR} (h:BA P num op (.beq ne x' y')=true) : ∃ t x y u,op = .binOp (if ne then .neq else .eql) t x y u/\P.underlying t=some .bool/\BV x x'=true/\BV y y'=true:=by
 cases op with
 | binOp f' t x y u =>
  simp only[BA,Bool.and_eq_true]at h;obtain ⟨⟨⟨h1,h2⟩,h3⟩,h4⟩:=h;refine ⟨t,x,y,u,?_,?_,h3,h4⟩
  ·cases ne<;>simp_all
  ·split at h2<;>simp_all
 | _=>exact Bool.noConfusion h
theorem AfO {f:UnOp} {x':AR} (h:BA P num op (.un f x')=true) : ∃ t x,op = .unOp f t x/\BV x x'=true:=by
 cases op with
 | unOp f' t x =>
  simp only[BA,Bool.and_eq_true,beq_iff_eq]at h;exact ⟨t,x,by rw[h.1],h.2⟩
 | _=>exact Bool.noConfusion h
theorem Afz {k:IntKind} {x':AR} (h:BA P num op (.conv k x')=true) : ∃ s d x ds,op = .convert s d x/\P.underlying s=some ds/\P.underlying d=some (.int k)/\BV x x'=true:=by
 cases op with
 | convert s d x =>
  simp only[BA,Bool.and_eq_true]at h;obtain ⟨⟨h1,h2⟩,h3⟩:=h;obtain ⟨ds,Au⟩:=Option.isSome_iff_exists.1 h1;refine ⟨s,d,x,ds,rfl,Au,?_,h3⟩;split at h2<;>simp_all
 | _=>exact Bool.noConfusion h
theorem Afr {s:Nat} {x':AR} (h:BA P num op (.box s x')=true) : ∃ t x,op = .box t x/\BV x x'=true:=by
 cases op with
 | box t x=>exact ⟨t,x,rfl,h⟩
 | _=>exact Bool.noConfusion h
theorem Afo {s:Nat} {z:List AV} (h:BA P num op (.alloc s z)=true) : ∃ t,op = .alloc t/\VS P t z=true:=by
 cases op with
 | alloc t=>exact ⟨t,rfl,h⟩
 | _=>exact Bool.noConfusion h
theorem Aft {z:List AV} {eu:List (Nat × Nat × AR)} (h:BA P num op (.build z eu)=true) : ∃ t ps,op = .build t ps/\VS P t z=true/\fE P t ps.toList eu=true:=by
 cases op with
 | build t ps=>simp only[BA,Bool.and_eq_true]at h;exact ⟨t,ps,rfl,h.1,h.2⟩
 | _=>exact Bool.noConfusion h
theorem VI {t:TypeId} {f:TypeId->Bool} (h:NH P t f=true) : ∃ e,P.underlying t=some (.slice e)/\f e=true:=by
 unfold NH at h;split at h
 ·rename_i e he;exact ⟨e,he,h⟩
 ·cases h
theorem O3 {t:TypeId} {n:Nat} (h:JB P t n=true) : ∃ i,P.info? t=some i/\i.size=n:=by
 unfold JB at h;split at h
 ·rename_i i hi;exact ⟨i,hi,by simpa using h⟩
 ·cases h
theorem oD {t:TypeId} {n:Nat} (h:aH P t n=true) : ∃ i,P.info? t=some i/\i.bytes=n:=by
 unfold aH at h;split at h
 ·rename_i i hi;exact ⟨i,hi,by simpa using h⟩
 ·cases h
theorem mN {t:TypeId} {l:List AV} (h:VS P t l=true) : ∃ i z,P.info? t=some i/\i.zero=some z/\PL z.cells.toList l=true:=by
 unfold VS at h;split at h
 ·rename_i i hi
  split at h
  ·rename_i z hz;exact ⟨i,z,hi,hz,h⟩
  ·cases h
 ·cases h
theorem eJ {t:TypeId} {b:Bool} (h:(V2 P t == some b)=true) : ∀ w,(isAgg t).run P w = .ok b w:=by
 intro w;have h':V2 P t=some b:=by simpa using h
 unfold V2 at h';unfold isAgg;cases hu:P.underlying t with
 | none=>rw[hu]at h';cases h'
 | some d =>
  rw[hu]at h';rw[Sem.run_bind,run_underlying hu];cases d<;>simp_all<;>rfl
theorem Mk {e:TypeId} {n:Nat} (h:(match P.info? e with|some i=>(match i.zero with|some z=>z.cells.size == n|none=>false)|none=>false)=true) : ∃ i z,P.info? e=some i/\i.zero=some z/\z.cells.size=n:=by
 split at h
 ·rename_i i hi
  split at h
  ·rename_i z hz;exact ⟨i,z,hi,hz,by simpa using h⟩
  ·cases h
 ·cases h
theorem Afs {s b9:Nat} {eu:List AR} (h:BA P num op (.c9 s b9 eu)=true) : ∃ t n ps e i,op = .buildSlice t n ps/\P.underlying t=some (.slice e)/\P.info? e=some i/\i.size=b9/\b9≠0/\n=eu.length/\n*b9<=16777216/\TG 0 ps.toList eu=true/\(n=0 \/ ∃ z,i.zero=some z/\z.cells.size=b9):=by
 cases op with
 | buildSlice t n ps =>
  simp only[BA,Bool.and_eq_true,decide_eq_true_eq,bne_iff_ne,beq_iff_eq,Bool.or_eq_true]at h;obtain ⟨⟨⟨⟨⟨h1,h2⟩,h3⟩,h4⟩,h5⟩,h6⟩:=h;obtain ⟨e,he,h1⟩:=VI h1;obtain ⟨i,hi,hs⟩:=O3 h1;refine ⟨t,n,ps,e,i,rfl,he,hi,hs,h2,h3,h4,h5,h6.imp id λ h6 => ?_⟩;obtain ⟨e',ja,h6⟩:=VI h6;rw[he]at ja;obtain rfl:e=e':=by simpa using ja
  obtain ⟨i',z,q7,hz,zm⟩:=Mk h6;rw[hi]at q7;obtain rfl:i=i':=by simpa using q7
  exact ⟨z,hz,zm⟩
 | _=>exact Bool.noConfusion h
theorem uC {x':AR} {off:Nat} (h:BA P num op (.a6 x' off)=true) : ∃ t x f fs fd i,op = .fieldAddr t x f/\BV x x'=true/\P.underlying t=some (.struct fs)/\fs[f]? = some fd/\fd.offset=off/\P.info? fd.type=some i/\i.size≠0:=by
 cases op with
 | fieldAddr t x f =>
  simp only[BA,Bool.and_eq_true]at h;obtain ⟨h1,h2⟩:=h;split at h2
  ·rename_i fs lh
   split at h2
   ·rename_i fd Gz
    simp only[Bool.and_eq_true,beq_iff_eq]at h2;obtain ⟨h3,h4⟩:=h2;split at h4
    ·rename_i i hi
     exact ⟨t,x,f,fs,fd,i,rfl,h1,lh,Gz,h3,hi,by simpa using h4⟩
    ·cases h4
   ·cases h2
  ·cases h2
 | _=>exact Bool.noConfusion h
theorem AfB {x':AR} {off n:Nat} {agg:Bool} (h:BA P num op (.ox x' off n agg)=true) : ∃ t x f fs fd i,op = .field t x f/\BV x x'=true/\P.underlying t=some (.struct fs)/\fs[f]? = some fd/\fd.offset=off/\P.info? fd.type=some i/\i.size=n/\(∀ w,(isAgg fd.type).run P w = .ok agg w)/\n≠0:=by
 cases op with
 | field t x f =>
  simp only[BA,Bool.and_eq_true]at h;obtain ⟨⟨h1,h2⟩,h3⟩:=h;unfold sR at h2;unfold sS at h3;split at h2
  ·rename_i fs lh
   split at h2
   ·rename_i fd Gz
    simp only[Bool.and_eq_true,beq_iff_eq,bne_iff_ne]at h2;obtain ⟨⟨h4,h5⟩,h6⟩:=h2;obtain ⟨i,hi,hs⟩:=O3 h5;rw[lh]at h3;simp only[Gz]at h3;exact ⟨t,x,f,fs,fd,i,rfl,h1,lh,Gz,h4,hi,hs,eJ h3,h6⟩
   ·cases h2
  ·cases h2
 | _=>exact Bool.noConfusion h
theorem bS {arr:Option Nat} {b9:Nat} {x' i':AR} (h:BA P num op (.a5 arr b9 x' i')=true) : ∃ t x i e inf,op = .indexAddr t x i/\BV x x'=true/\BV i i'=true/\P.info? e=some inf/\inf.size=b9 /\
  ((∃ len,arr=some len/\P.underlying t=some (.array len e)/\1<len)\/(arr=none/\P.underlying t=some (.slice e)/\b9≠0)):=by
 cases op with
 | indexAddr t x i =>
  simp only[BA,Bool.and_eq_true]at h;obtain ⟨⟨h1,h2⟩,h3⟩:=h;split at h3
  ·rename_i len e rz hu
   simp only[Bool.and_eq_true,beq_iff_eq,decide_eq_true_eq]at h3;obtain ⟨⟨h4,h5⟩,h6⟩:=h3;obtain ⟨inf,hi,hs⟩:=O3 h5;exact ⟨t,x,i,e,inf,rfl,h1,h2,hi,hs,.inl ⟨len,by rw[h4],hu,h6⟩⟩
  ·rename_i e hu
   simp only[Bool.and_eq_true,bne_iff_ne]at h3;obtain ⟨inf,hi,hs⟩:=O3 h3.1;exact ⟨t,x,i,e,inf,rfl,h1,h2,hi,hs,.inr ⟨rfl,hu,h3.2⟩⟩
  ·cases h3
 | _=>exact Bool.noConfusion h
theorem uD {agg:Bool} {n:Nat} {x':AR} (h:BA P num op (.ld agg n x')=true) : ∃ t x,op = .load t x/\BV x x'=true/\(∀ w,(isAgg t).run P w = .ok agg w)/\(if agg then ∃ i,P.info? t=some i/\i.size=n else n=1):=by
 cases op with
 | load t x =>
  simp only[BA,Bool.and_eq_true]at h;obtain ⟨⟨h1,h2⟩,h3⟩:=h;refine ⟨t,x,rfl,h1,eJ h2,?_⟩;cases agg
  ·simpa using h3
  ·exact O3 (by simpa using h3)
 | _=>exact Bool.noConfusion h
theorem AfM {n:Nat} {x' v':AR} (h:BA P num op (.st n x' v')=true) : ∃ t x v i,op = .store t x v/\BV x x'=true/\BV v v'=true/\P.info? t=some i/\i.size=n:=by
 cases op with
 | store t x v =>
  simp only[BA,Bool.and_eq_true]at h;obtain ⟨⟨h1,h2⟩,h3⟩:=h;obtain ⟨i,hi,hs⟩:=O3 h3;exact ⟨t,x,v,i,rfl,h1,h2,hi,hs⟩
 | _=>exact Bool.noConfusion h
theorem AfE {s b9 bytes:Nat} {zero:List AV} {l' c':AR} (h:BA P num op (.mk s b9 bytes zero l' c')=true) : ∃ t l c e i z,op = .makeSlice t l c/\BV l l'=true/\BV c c'=true/\P.underlying t=some (.slice e)/\P.info? e=some i/\i.size=b9/\i.bytes=bytes/\i.zero=some z/\PL z.cells.toList zero=true/\b9≠0:=by
 cases op with
 | makeSlice t l c =>
  simp only[BA,Bool.and_eq_true,bne_iff_ne]at h;obtain ⟨⟨⟨h1,h2⟩,h3⟩,h4⟩:=h;obtain ⟨e,he,h3⟩:=VI h3;simp only[Bool.and_eq_true]at h3;obtain ⟨⟨h5,h6⟩,h7⟩:=h3;obtain ⟨i,hi,hs⟩:=O3 h5;obtain ⟨i2,xo,Bh⟩:=oD h6;obtain ⟨i3,z,Eo,hz,jk⟩:=mN h7;rw[hi]at xo Eo;obtain rfl:i=i2:=by simpa using xo
  obtain rfl:i=i3:=by simpa using Eo
  exact ⟨t,l,c,e,i,z,rfl,h1,h2,he,hi,hs,Bh,hz,jk,h4⟩
 | _=>exact Bool.noConfusion h
theorem jG {b9:Nat} {x':AR} {om q7:Option AR} (h:BA P num op (.gp b9 x' om q7)=true) : ∃ t x lo hi e i,op = .slice t x lo hi none/\BV x x'=true/\OO lo om=true/\OO hi q7=true/\P.underlying t=some (.slice e)/\P.info? e=some i/\i.size=b9/\b9≠0:=by
 cases op with
 | slice t x lo hi mx =>
  cases mx with
  | some _=>exact Bool.noConfusion h
  | none =>
   simp only[BA,Bool.and_eq_true,bne_iff_ne]at h;obtain ⟨⟨⟨⟨h1,h2⟩,h3⟩,h4⟩,h5⟩:=h;obtain ⟨e,he,h4⟩:=VI h4;obtain ⟨i,q7,hs⟩:=O3 h4;exact ⟨t,x,lo,hi,e,i,rfl,h1,h2,h3,he,q7,hs,h5⟩
 | _=>exact Bool.noConfusion h
theorem AfA {x':AR} {i:Nat} (h:BA P num op (.ext x' i)=true) : ∃ x,op = .extract x i/\BV x x'=true:=by
 cases op with
 | extract x j =>
  simp only[BA,Bool.and_eq_true,beq_iff_eq]at h;exact ⟨x,by rw[h.2],h.1⟩
 | _=>exact Bool.noConfusion h
theorem yZ {α:Type} {xs:Array α} {x y:α} (h:xs.toList=[x,y]):xs = #[x,y]:=by cases xs;simp_all
theorem yY {α:Type} {xs:Array α} {x:α} (h:xs.toList=[x]):xs = #[x]:=by cases xs;simp_all
theorem AfD {x':AR} (h:BA P num op (.len x')=true) : ∃ x t e,op = .call ⟨.builtin .len,#[x],#[t]⟩/\BV x x'=true/\P.underlying t=some (.slice e):=by
 cases op with
 | call c =>
  obtain ⟨cl,xs,ts⟩:=c;cases cl with
  | builtin b =>
   cases b<;>first|exact Bool.noConfusion h|skip
   simp only[BA]at h;split at h
   ·rename_i x t hx ht
    simp only[Bool.and_eq_true]at h;obtain ⟨e,he,_⟩:=VI h.2;exact ⟨x,t,e,by rw[yY hx,yY ht],h.1,he⟩
   ·cases h
  | value f=>cases f<;>exact Bool.noConfusion h
  | invoke=>exact Bool.noConfusion h
 | _=>exact Bool.noConfusion h
theorem uE {mx:Bool} {o8:List AR} (h:BA P num op (.mm mx o8)=true) : ∃ xs ts,op = .call ⟨.builtin (if mx then .max else .min),xs,ts⟩/\DS xs.toList o8=true:=by
 cases op with
 | call c =>
  obtain ⟨cl,xs,ts⟩:=c;cases cl with
  | builtin b =>
   cases b<;>first|exact Bool.noConfusion h|skip
   all_goals
    simp only[BA,Bool.and_eq_true]at h;refine ⟨xs,ts,?_,h.2⟩;cases mx<;>simp_all
  | value f=>cases f<;>exact Bool.noConfusion h
  | invoke=>exact Bool.noConfusion h
 | _=>exact Bool.noConfusion h
theorem uB {s b9 bytes:Nat} {x' y':AR} (h:BA P num op (.app s b9 bytes x' y')=true) : ∃ x y t e i z tx ex,op = .call ⟨.builtin .append,#[x,y],#[t,tx]⟩/\BV x x'=true/\BV y y'=true/\P.underlying t=some (.slice e)/\P.info? e=some i/\i.size=b9/\i.bytes=bytes/\i.zero=some z/\z.cells.size=b9/\b9≠0/\P.underlying tx=some (.slice ex):=by
 cases op with
 | call c =>
  obtain ⟨cl,xs,ts⟩:=c;cases cl with
  | builtin b =>
   cases b<;>first|exact Bool.noConfusion h|skip
   simp only[BA]at h;split at h
   ·rename_i x y t u hx ht
    simp only[Bool.and_eq_true,beq_iff_eq,bne_iff_ne]at h;obtain ⟨⟨⟨⟨h1,h2⟩,h3⟩,h4⟩,h5⟩:=h;obtain ⟨e,he,h3⟩:=VI h3;simp only[Bool.and_eq_true]at h3;obtain ⟨⟨h6,h7⟩,h8⟩:=h3;obtain ⟨i,hi,hs⟩:=O3 h6;obtain ⟨i2,xo,Bh⟩:=oD h7;obtain ⟨i3,z,Eo,hz,jk⟩:=Mk h8;rw[hi]at xo Eo;obtain rfl:i=i2:=by simpa using xo
    obtain rfl:i=i3:=by simpa using Eo
    obtain ⟨ex,hex,_⟩:=VI h5;exact ⟨x,y,t,e,i,z,u,ex,by rw[yZ hx,yZ ht],h1,h2,he,hi,hs,Bh,hz,jk,h4,hex⟩
   ·cases h
  | value f=>cases f<;>exact Bool.noConfusion h
  | invoke=>exact Bool.noConfusion h
 | _=>exact Bool.noConfusion h
theorem jE {f:Nat} {o8:List AR} (h:BA P num op (.call f o8)=true) : ∃ xs ts,op = .call ⟨.value (.func (num f)),xs,ts⟩/\DS xs.toList o8=true:=by
 cases op with
 | call c =>
  obtain ⟨cl,xs,ts⟩:=c;cases cl with
  | builtin b=>cases b<;>exact Bool.noConfusion h
  | value g =>
   cases g with
   | func g =>
    simp only[BA,Bool.and_eq_true,beq_iff_eq]at h;exact ⟨xs,ts,by rw[h.1],h.2⟩
   | _=>exact Bool.noConfusion h
  | invoke=>exact Bool.noConfusion h
 | _=>exact Bool.noConfusion h
theorem Afu {f:Nat} {o8:List AR} (h:BA P num op (.e9 f o8)=true) : ∃ xs ts,op = .call ⟨.value (.func (num f)),xs,ts⟩/\DS xs.toList o8=true:=by
 cases op with
 | call c =>
  obtain ⟨cl,xs,ts⟩:=c;cases cl with
  | builtin b=>cases b<;>exact Bool.noConfusion h
  | value g =>
   cases g with
   | func g =>
    simp only[BA,Bool.and_eq_true,beq_iff_eq]at h;exact ⟨xs,ts,by rw[h.1],h.2⟩
   | _=>exact Bool.noConfusion h
  | invoke=>exact Bool.noConfusion h
 | _=>exact Bool.noConfusion h
theorem Afv {f:Nat} {o8:List AR} (h:BA P num op (.o0 f o8)=true):BA P num op (.call f o8)=true:=by
 cases op<;>exact h
theorem Afx {s f:Nat} {o8:List AR} (h:BA P num op (.cq s f o8)=true):BA P num op (.e9 f o8)=true:=by
 cases op<;>exact h
theorem Afw {s f:Nat} {o8:List AR} (h:BA P num op (.u9 s f o8)=true):BA P num op (.call f o8)=true:=by
 cases op<;>exact h
theorem AfN {s n:Nat} {x' v':AR} (h:BA P num op (.nv s n x' v')=true):BA P num op (.st n x' v')=true:=by
 cases op<;>exact h
theorem AfC {ne:Bool} {x':AR} (h:BA P num op (.ry ne x')=true) : ∃ t x u e,op = .binOp (if ne then .neq else .eql) t x (.const (.slice none 0 0)) u/\P.underlying t=some (.slice e)/\BV x x'=true:=by
 cases op with
 | binOp f' t x y u =>
  simp only[BA]at h;split at h
  ·rename_i heq
   simp only[Op.binOp.injEq]at heq;obtain ⟨rfl,rfl,rfl,rfl,rfl⟩:=heq;simp only[Bool.and_eq_true]at h;obtain ⟨⟨h1,h2⟩,h3⟩:=h;unfold NH at h2;split at h2
   ·rename_i e he
    refine ⟨t,x,u,e,?_,he,h3⟩;cases ne
    ·simp only[Bool.false_eq_true,if_false,beq_iff_eq]at h1;rw[h1];rfl
    ·simp only[if_true,beq_iff_eq]at h1;rw[h1];rfl
   ·cases h2
  ·cases h
 | _=>exact Bool.noConfusion h
theorem AfI {tb:List Nat} {i':AR} (h:BA P num op (.gn tb i')=true) : ∃ t s i,op = .index t (.const (.string s)) i/\P.underlying t=some .string/\s.data.toList.map (λ b=>b.toNat)=tb/\BV i i'=true:=by
 cases op with
 | index t x i =>
  simp only[BA]at h;split at h
  ·rename_i heq
   simp only[Op.index.injEq]at heq;obtain ⟨rfl,rfl,rfl⟩:=heq;simp only[Bool.and_eq_true,beq_iff_eq]at h;obtain ⟨⟨h1,h2⟩,h3⟩:=h;exact ⟨_,_,_,rfl,by split at h1<;>simp_all,h2,h3⟩
  ·cases h
 | _=>exact Bool.noConfusion h
theorem AfF {p:Bool} {f:Nat} {o8:List AR} (h:BA P num op (.qa p f o8)=true) : ∃ first xs,op = .makeFunc (.func (num f)) first xs/\first = #[]/\DS xs.toList o8=true:=by
 cases op with
 | makeFunc g first xs =>
  cases g with
  | func g =>
   simp only[BA,Bool.and_eq_true,beq_iff_eq]at h;obtain ⟨⟨rfl,h2⟩,h3⟩:=h;refine ⟨first,xs,rfl,?_,h3⟩;obtain ⟨l⟩:=first
   simp at h2;rw[h2]
  | _=>exact Bool.noConfusion h
 | _=>exact Bool.noConfusion h
theorem jF {x':AR} {o8:List AR} (h:BA P num op (.n8 x' o8)=true) : ∃ x xs ts,op = .call ⟨.value x,xs,ts⟩/\BV x x'=true/\DS xs.toList o8=true:=by
 cases op with
 | call c =>
  obtain ⟨cl,xs,ts⟩:=c;cases cl with
  | builtin b=>cases b<;>exact Bool.noConfusion h
  | value g =>
   simp only[BA,Bool.and_eq_true]at h;exact ⟨g,xs,ts,rfl,h.1,h.2⟩
  | invoke=>exact Bool.noConfusion h
 | _=>exact Bool.noConfusion h
end
end Go.e8
namespace Go.e8
open Go.RowKit
def B3.ag:B3->AH->AH
 | .val _,o=>o
 | .new s b _,o=>o.put s ((o s).new b)
 | .yl s b _,o=>o.put s ((o s).new b)
 | .ea _ o',_=>o'
 | .q8 s x,o=>o.put s x
 | .wm s x _,o=>o.put s x
def B3.valOf:B3->AH->AV
 | .val v,_=>v
 | .new s _ v,o=>v (o.g8 s)
 | .yl s _ v,o=>v (o.g8 s)
 | .ea v _,_=>v
 | .q8 _ _,_ => .l6 []
 | .wm _ _ v,_=>v
section
variable {B:Nat} {S:Nat->Prop} {w0:World} {m:M}
theorem HN {k:IntKind} {n:Int} {v:Value} (h:CV B S m (.int k n) v):v = .int k n:=by
 cases h with
 | ca h=>cases h with
  | one h=>cases h with
   | rd h=>cases h;rfl
theorem SY {b:Bool} {v:Value} (h:CV B S m (.bool b) v):v = .bool b:=by
 cases h with
 | ca h=>cases h with
  | one h=>cases h with
   | rd h=>cases h;rfl
theorem Xe {cs:List AV} {v:Value} (h:CV B S m (.agg cs) v) : ∃ vs:List Value,v = .agg vs.toArray/\CL B S m cs vs:=by
 cases h with
 | ca h=>cases h with
  | one h=>cases h with
   | rd h=>cases h
  | agg _ vs h=>exact ⟨vs,rfl,h⟩
theorem fZ {cs:List AV} {v:Value} (h:CV B S m (.l6 cs) v) : ∃ vs:List Value,v = .tuple vs.toArray/\cs.length=vs.length /\ ∀ (j:Nat) (c:AV) (u:Value),cs[j]? = some c->vs[j]? = some u->CA B S m c u:=by
 cases h with
 | ca h=>cases h with
  | one h=>cases h with
   | rd h=>cases h
 | l6 _ vs hl h=>exact ⟨vs,rfl,hl,h⟩
theorem QT (k:IntKind) (n:Int):CV B S m (.int k n) (.int k n):= .ca (.one (.rd (.int k n)))
theorem cA (b:Bool):CV B S m (.bool b) (.bool b):= .ca (.one (.rd (.bool b)))
theorem vC:CV B S m (.l6 []) undef := .l6 [] [] rfl (λ j c v h=>by simp at h)
theorem aS {a:AV} {cs:List AV} {v:Value} (h:CV B S m a v) (hc:cellsOf a=some cs):CL B S m cs v.cells.toList:=by
 cases h with
 | any v=>simp [cellsOf]at hc
 | l6=>simp [cellsOf]at hc
 | ca h=>cases h with
  | agg ew vs h =>
   obtain rfl:ew=cs:=by simpa [cellsOf] using hc
   simpa [Value.cells] using h
  | fn=>simp [cellsOf]at hc
  | tk=>simp [cellsOf]at hc
  | one h =>
   have h1:v.cells.toList=[v]:=by
    cases h with
    | rd h=>cases h<;>rfl
    | _=>rfl
   have h2:cs=[a]:=by
    cases h with
    | rd h=>cases h<;>simp [cellsOf]at hc<;>exact hc.symm
    | _=>simp [cellsOf]at hc;exact hc.symm
   rw[h1,h2];refine ⟨rfl,λ j c u hj hu => ?_⟩;cases j with
   | zero=>simp at hj hu;subst hj hu;exact h
   | succ j=>simp at hj
theorem Sv {cs:List AV} {vs:List Value} (h:CL B S m cs vs) : ∀ v∈vs,v.oneCell'=true:=by
 intro v hv;obtain ⟨j,hj,rfl⟩:=List.getElem_of_mem hv;have Cp:j<cs.length:=by rw[h.1];exact hj
 exact (h.2 j cs[j] vs[j] (zE Cp) (zE hj)).one
theorem Sw {cs:List AV} {vs:List Value} (h:CL B S m cs vs) (off n:Nat):CL B S m ((cs.drop off).take n) ((vs.drop off).take n):=by
 refine ⟨by simp [h.1],λ j c v hj hv => ?_⟩;rw[List.getElem?_take]at hj hv;split at hj
 ·rename_i m9
  rw[if_pos m9]at hv;rw[List.getElem?_drop]at hj hv;exact h.2 _ c v hj hv
 ·cases hj
theorem qY {v:Value} {a:AV} (h:bD v a=true):CC B S m a v:=by
 unfold bD at h;split at h
 ·simp only[Bool.and_eq_true,beq_iff_eq]at h
  obtain ⟨rfl,rfl⟩:=h;exact .rd (.int _ _)
 ·obtain rfl:_=_:=by simpa using h
  exact .rd (.bool _)
 ·exact .nil
 ·rename_i s s'
  obtain rfl:s=s':=by
   have h':s.data.toList=s'.data.toList:=by simpa using h
   obtain ⟨⟨l⟩⟩:=s;obtain ⟨⟨l'⟩⟩:=s';simp only at h';rw[h']
  exact .rd (.str _)
 ·exact .rd .mb
 ·cases h
theorem WH : ∀ {vs:List Value} {cs:List AV},PL vs cs=true->CL B S m cs vs
 | [],[],_=>⟨rfl,λ j c v h=>by simp at h⟩
 | v::r,c::l,h=>by
  simp only[PL,Bool.and_eq_true]at h;have ih:=WH (vs:=r) (cs:=l) h.2;refine ⟨by simp [ih.1],λ j c' v' hj hv => ?_⟩;cases j with
  | zero=>simp at hj hv;subst hj hv;exact qY h.1
  | succ j=>exact ih.2 j c' v' (by simpa using hj) (by simpa using hv)
 | [],_::_,h=>by simp [PL]at h
 | _::_,[],h=>by simp [PL]at h
theorem Yl {v:Value} {a:AV} (h:gR v a=true):CV B S m a v:=by
 unfold gR at h;split at h
 ·rename_i cs l
  have:=WH (B:=B) (S:=S) (m:=m) h
  exact .ca (by simpa using CA.agg l cs.toList this)
 ·exact .ca (.one (qY h))
def CF (B:Nat) (S:Nat->Prop) (m:M) (ρ:AR->AV) (e:Operand->Value):Prop := ∀ x y,BV x y=true->CV B S m (ρ y) (e x)
theorem AhK {T:Nat->AV} {a:Act} {ρ:AR->AV} (hρt : ∀ n,ρ (.t n)=T n) (Pc : ∀ v,ρ (.c v)=v) (h : ∀ i,CV B S m (T i) (a.tmps.getD i undef)):CF B S m ρ a.eval:=by
 intro x y np;unfold BV at np;split at np
 ·obtain rfl:_=_:=by simpa using np
  rw[hρt];exact h _
 ·rw[Pc]
  exact Yl np
 ·obtain rfl:_=_:=by simpa using np
  rw[Pc];exact .ca (.fn _ _ _ [] [] (λ_=>rfl) ⟨rfl,λ j c v h=>by simp at h⟩)
 ·cases np
variable {P:Program} {num:Nat->Nat} {o:Oper} {a:Act} {ρ:AR->AV} {K:Act->World->Prop} {Q:Exit->Act->World->Prop}
theorem QA {w w':World} {u:Value} (h:(execOp a.eval o).run P w = .ok (.value u) w') (hk:K (a.put o.dst u) w'):o.wp P a w K Q:=by
 unfold Oper.wp;rw[h];exact hk
theorem AiK {w w':World} (h:(execOp a.eval o).run P w = .ok .skip w') (hk:K (a.put o.dst undef) w'):o.wp P a w K Q:=by
 unfold Oper.wp;rw[h];exact hk
def CK (B:Nat) (S:Nat->Prop) (w0:World) (P:Program) (o:Oper) (a:Act) (m:M) (E:B3):Prop :=
 ∀ (K:Act->World->Prop) (Q:Exit->Act->World->Prop),(∀ u m',m'.own=E.ag m.own->BL B S w0 m'->C1 B S m m'->CV B S m' (E.valOf m.own) u->K (a.put o.dst u) m'.w)->o.wp P a m.w K Q
theorem EA (hm:BL B S w0 m) {v:AV} {u:Value} (h:(execOp a.eval o).run P m.w = .ok (.value u) m.w) (hc:CV B S m v u):CK B S w0 P o a m (.val v) :=
 λ K Q hK=>QA h (hK u m rfl hm (C1.refl m) hc)
theorem Zk (hm:BL B S w0 m) (hs:CF B S m ρ a.eval) {y:AR} (h:BA P num o.op (.a9 y)=true):CK B S w0 P o a m (.val (ρ y)):=by
 obtain ⟨x,hx,he⟩:=AfG h;refine EA hm (u:=a.eval x) ?_ (hs x y he);rcases hx with hx|hx<;>simp [execOp,hx]
theorem Zq (hm:BL B S w0 m) {s z:Nat} (h:BA P num o.op (.w9 s z)=true):CK B S w0 P o a m (.yl s ⟨z,[]⟩ (λ t => .row s t z 0 0)):=by
 obtain ⟨hx,hz⟩:=AfP h;intro K Q hK;obtain ⟨h1,h2⟩:=zV hm s z;refine QA (u := .slice none 0 0) (w':=m.w) ?_ (hK _ ⟨l7 m s none,m.own.put s ((m.own s).new ⟨z,[]⟩),m.w⟩ rfl h1 h2 ?_)
 ·rcases hx with hx|hx<;>simp [execOp,hx,Act.eval]
 ·refine .ca (.one (.row s (m.own.g8 s) z 0 0 none 0 ?_ (by omega) (Nat.le_refl _) (λ h=>by omega) λ b hb => ?_))
  ·show _<AH.g8 _ s
   rw[KF];simp
  ·change AH.get _ s _=some b at hb
   rw[FO,if_pos ⟨rfl,rfl⟩]at hb;obtain rfl:(⟨z,[]⟩:DM)=b:=by simpa using hb
   exact ⟨rfl,.inl ⟨rfl,rfl⟩⟩
theorem qG (hm:BL B S w0 m) (hs:CF B S m ρ a.eval) {c' a' b':AR} (h:BA P num o.op (.pick c' a' b')=true) {t:Bool} (hc:ρ c' = .bool t) :
  CK B S w0 P o a m (.val (if t then ρ a' else ρ b')):=by
 obtain ⟨c,x,y,n0,h1,h2,h3⟩:=AfH h;have w5:=SY (hc ▸ hs c c' h1);refine EA hm (u:=if t then a.eval x else a.eval y) ?_ ?_
 ·cases t<;>simp [execOp,n0,w5,asBool]
 ·cases t
  ·exact hs y b' h3
  ·exact hs x a' h2
theorem AhF (f:BinOp) (t:TypeId) (k k':IntKind) (x y:Int) (v:AV) (h:C3 f k x k' y=some v) (w:World) : ∃ u,(binOp f t (.int k x) (.int k' y)).run P w = .ok u w/\((∃ n,v = .int k n/\u = .int k n) \/ ∃ b,v = .bool b/\u = .bool b):=by
 cases f<;>simp only[C3]at h;case shl =>
  split at h
  ·cases h
  ·rename_i hy;simp at h;subst h
   exact ⟨_,by simp [binOp,Op.shift,hy],.inl ⟨_,rfl,rfl⟩⟩
 case shr =>
  split at h
  ·cases h
  ·rename_i hy;simp at h;subst h
   exact ⟨_,by simp [binOp,Op.shift,hy],.inl ⟨_,rfl,rfl⟩⟩
 case quo =>
  split at h
  ·rename_i hy;obtain ⟨rfl,hy⟩:=hy;simp at h;subst h
   exact ⟨_,by simp [binOp,Op.intDiv,hy],.inl ⟨_,rfl,rfl⟩⟩
  ·cases h
 case rem =>
  split at h
  ·rename_i hy;obtain ⟨rfl,hy⟩:=hy;simp at h;subst h
   exact ⟨_,by simp [binOp,Op.intDiv,hy],.inl ⟨_,rfl,rfl⟩⟩
  ·cases h
 case and|or|xor|andNot =>
  all_goals
   split at h
   ·rename_i hk;subst hk;obtain rfl:=Option.some.inj h
    exact ⟨_,by simp only[binOp,ne_eq,not_true_eq_false,if_false];rfl,.inl ⟨_,rfl,rfl⟩⟩
   ·cases h
 case add|sub|mul =>
  all_goals
   split at h
   ·rename_i hk;subst hk;obtain rfl:=Option.some.inj h
    exact ⟨_,by simp [binOp,Op.intArith],.inl ⟨_,rfl,rfl⟩⟩
   ·cases h
 all_goals
  split at h
  ·rename_i hk;subst hk;obtain rfl:=Option.some.inj h
   exact ⟨_,by simp [binOp,Op.intCmp],.inr ⟨_,rfl,rfl⟩⟩
  ·cases h
theorem Ahz (f:BinOp) (t:TypeId) (x y:Operand) (k k':IntKind) (n n':Int) (w:World):(eqGuard f t x y (.int k n) (.int k' n')).run P w = .ok () w:=by
 unfold eqGuard;cases f<;>simp
theorem AhA (f:BinOp) (t:TypeId) (x y:Operand) (b b':Bool) (w:World):(eqGuard f t x y (.bool b) (.bool b')).run P w = .ok () w:=by
 unfold eqGuard;cases f<;>simp
theorem Wn (hm:BL B S w0 m) (hs:CF B S m ρ a.eval) {f:BinOp} {x' y':AR} (h:BA P num o.op (.bin f x' y')=true) {k k':IntKind} {n n':Int} {v:AV} (hx:ρ x' = .int k n) (hy:ρ y' = .int k' n') (hv:C3 f k n k' n'=some v) :
  CK B S w0 P o a m (.val v):=by
 obtain ⟨t,x,y,u,n0,h1,h2⟩:=Afq h;have ex:=HN (hx ▸ hs x x' h1);have ey:=HN (hy ▸ hs y y' h2);obtain ⟨r,hr,fi⟩:=AhF (P:=P) f t k k' n n' v hv m.w;refine EA hm (u:=r) ?_ ?_
 ·simp [execOp,n0,ex,ey,Ahz,hr]
 ·rcases fi with ⟨q,rfl,rfl⟩|⟨q,rfl,rfl⟩
  ·exact QT _ _
  ·exact cA _
theorem AhC (t:TypeId) (b b':Bool) (hu:P.underlying t=some .bool) (w:World):(Op.equal t (.bool b) (.bool b')).run P w = .ok (b == b') w:=by
 have h : ∀ d:Nat,(Op.equalIn (d+1) t (.bool b) (.bool b')).run P w = .ok (b == b') w:=λ d=>by
  unfold Op.equalIn;rw[Sem.run_bind,run_underlying hu];rfl
 exact h 9999
theorem Wm (hm:BL B S w0 m) (hs:CF B S m ρ a.eval) {ne:Bool} {x' y':AR} (h:BA P num o.op (.beq ne x' y')=true) {b b':Bool} (hx:ρ x' = .bool b) (hy:ρ y' = .bool b') :
  CK B S w0 P o a m (.val (.bool (if ne then !(b == b') else b == b'))):=by
 obtain ⟨t,x,y,u,n0,hu,h1,h2⟩:=Afp h;have ex:=SY (hx ▸ hs x x' h1);have ey:=SY (hy ▸ hs y y' h2);refine EA hm (u := .bool (if ne then !(b == b') else b == b')) ?_ (cA _);cases ne<;>simp [execOp,n0,ex,ey,AhA,binOp,AhC t b b' hu]
theorem Zp (hm:BL B S w0 m) (hs:CF B S m ρ a.eval) {f:UnOp} {x':AR} (h:BA P num o.op (.un f x')=true) {v:AV} (hv:RE f (ρ x')=some v):CK B S w0 P o a m (.val v):=by
 obtain ⟨t,x,n0,h1⟩:=AfO h;have hx:=hs x x' h1;unfold RE at hv;split at hv
 ·rename_i k n hk
  have ex:=HN (hk ▸ hx);split at hv
  ·obtain rfl:_=v:=by simpa using hv
   exact EA hm (by simp [execOp,n0,ex,Op.unary,Op.intArith]) (QT _ _)
  ·obtain rfl:_=v:=by simpa using hv
   exact EA hm (by simp only[execOp,n0,ex,Op.unary];rfl) (QT _ _)
  ·cases hv
 ·rename_i b hk
  have ex:=SY (hk ▸ hx);split at hv
  ·obtain rfl:_=v:=by simpa using hv
   exact EA hm (by simp [execOp,n0,ex,Op.unary]) (cA _)
  ·cases hv
 ·cases hv
theorem Vm (hm:BL B S w0 m) (hs:CF B S m ρ a.eval) {k:IntKind} {x':AR} (h:BA P num o.op (.conv k x')=true) {k':IntKind} {n:Int} (hx:ρ x' = .int k' n):CK B S w0 P o a m (.val (.int k (k.wrap n))):=by
 obtain ⟨s,d,x,ds,n0,Au,hd,h1⟩:=Afz h;have ex:=HN (hx ▸ hs x x' h1);refine EA hm (u := .int k (k.wrap n)) ?_ (QT _ _);simp [execOp,n0,ex,convert,run_underlying Au,run_underlying hd,Conv.intToInt]
theorem AhD (t:TypeId) (a:Option Addr) (n c:Nat) {e:TypeId} (hu:P.underlying t=some (.slice e)) (w:World):(Op.equal t (.slice a n c) (.slice none 0 0)).run P w = .ok a.isNone w:=by
 have h : ∀ d:Nat,(Op.equalIn (d+1) t (.slice a n c) (.slice none 0 0)).run P w = .ok a.isNone w:=λ d=>by
  unfold Op.equalIn;rw[Sem.run_bind,run_underlying hu];cases a<;>rfl
 exact h 9999
theorem AhB (f:BinOp) (t:TypeId) (x y:Operand) (a b:Option Addr) (n c n' c':Nat) (w:World):(eqGuard f t x y (.slice a n c) (.slice b n' c')).run P w = .ok () w:=by
 unfold eqGuard;cases f<;>simp
theorem aY (hm:BL B S w0 m) (hs:CF B S m ρ a.eval) {ne:Bool} {x':AR} (h:BA P num o.op (.ry ne x')=true) {b:Bool} (hx : ∀ v,CV B S m (ρ x') v -> ∃ ad n c,v = .slice ad n c/\ad.isNone=b) :
  CK B S w0 P o a m (.val (.bool (xor b ne))):=by
 obtain ⟨t,x,u,e,n0,hu,h1⟩:=AfC h;obtain ⟨ad,n,c,ex,hb⟩:=hx _ (hs x x' h1);refine EA hm (u := .bool (xor b ne)) ?_ (cA _);have e0:a.eval (.const (.slice none 0 0)) = .slice none 0 0:=rfl;cases ne<;>cases b<;>simp [execOp,n0,ex,e0,AhB,binOp,AhD t ad n c hu,hb]
theorem V9 {v:Value} (h:CV B S m .nil v):v = .slice none 0 0:=by
 cases h with
 | ca h=>cases h with
  | one h=>cases h with
   | rd h=>cases h
   | nil=>rfl
theorem pR {b:Bool} {v:Value} (h:CV B S m (.da (.bool b)) v) : ∃ ad c,v = .slice ad 0 c/\ad.isNone=b:=by
 cases h with
 | ca h=>cases h with
  | one h=>cases h with
   | rd h=>cases h with
    | emp b a cap h=>exact ⟨a,cap,rfl,h⟩
theorem Xi {l:Bool} {e:List AV} {es:List (List AV)} {v:Value} (h:CV B S m (.sl l (e::es)) v) : ∃ ad n c,v = .slice ad n c/\ad.isNone=false:=by
 cases h with
 | ca h=>cases h with
  | one h=>cases h with
   | rd h=>cases h with
    | sl=>exact ⟨_,_,_,rfl,rfl⟩
theorem Xh {s t z off n:Nat} {v:Value} (h:CV B S m (.row s t z off (n+1)) v) : ∃ ad n c,v = .slice ad n c/\ad.isNone=false:=by
 cases h with
 | ca h=>cases h with
  | one h=>cases h with
   | rd h=>cases h
   | row _ _ _ _ _ a cap _ _ _ ha=>exact ⟨_,_,_,rfl,by have:=ha (by omega);cases a<;>simp_all⟩
theorem Zl (hm:BL B S w0 m) (hs:CF B S m ρ a.eval) {tb:List Nat} {x':AR} (h:BA P num o.op (.gn tb x')=true) {k:IntKind} {n:Int} {v:Nat} (hx:ρ x' = .int k n) (h0:0<=n) (hv:tb[n.toNat]? = some v) :
  CK B S w0 P o a m (.val (.int .u8 v)):=by
 obtain ⟨t,s,i,n0,hu,lv,h1⟩:=AfI h;have ex:=HN (hx ▸ hs i x' h1);have hb : ∃ b:UInt8,s[n.toNat]? = some b/\b.toNat=v:=by
  rw[<-lv,List.getElem?_map]at hv;cases hg:s.data.toList[n.toNat]? with
  | none=>simp [hg]at hv
  | some b =>
   simp only[hg,Option.map_some,Option.some.injEq]at hv;refine ⟨b,?_,hv⟩;have m9:n.toNat<s.size:=by
    have:=(zS hg).1
    simpa using this
   rw[getElem?_pos s n.toNat m9];congr 1;have:=(zS hg).2
   rw[<-this];rfl
 obtain ⟨b,ix,u7⟩:=hb;refine EA hm (u := .int .u8 v) ?_ (QT _ _);have e0:a.eval (.const (.string s)) = .string s:=rfl;simp [execOp,n0,ex,e0,Instr.index,asIntOf,run_underlying hu,h0,ix,u7]
theorem AgU {x c:AV} {v:Value} (h:CV B S m x v) (hc:F7 x=some c):CC B S m c v:=by
 cases h with
 | any=>simp [F7]at hc
 | l6=>simp [F7]at hc
 | ca h=>cases h with
  | agg=>simp [F7]at hc
  | fn=>simp [F7]at hc
  | tk=>simp [F7]at hc
  | one h =>
   have:c=x:=by
    cases h with
    | rd h=>cases h<;>simp [F7]at hc<;>exact hc.symm
    | _=>simp [F7]at hc;exact hc.symm
   subst this;exact h
theorem qX (hs:CF B S m ρ a.eval) : ∀ {xs:List Operand} {o8:List AR} {cs:List AV},DS xs o8=true->o8.mapM (λ x=>F7 (ρ x))=some cs->CL B S m cs (xs.map a.eval)
 | [],[],cs,_,h=>by
  simp at h;subst h;exact ⟨rfl,λ j c v h=>by simp at h⟩
 | x::r,y::l,cs,h,hc=>by
  simp only[DS,Bool.and_eq_true]at h;simp only[List.mapM_cons,Option.bind_eq_bind,Option.pure_def]at hc;cases h1:F7 (ρ y) with
  | none=>simp [h1]at hc
  | some c =>
   cases h2:l.mapM (λ x=>F7 (ρ x)) with
   | none=>simp [h1,h2]at hc
   | some ew =>
    simp [h1,h2]at hc;subst hc;have ih:=qX hs h.2 h2;refine ⟨by simpa using ih.1,λ j c' v hj hv => ?_⟩;cases j with
    | zero =>
     simp at hj hv;subst hj hv;exact AgU (hs x y h.1) h1
    | succ j=>exact ih.2 j c' v (by simpa using hj) (by simpa using hv)
 | [],_::_,_,h,_=>by simp [DS]at h
 | _::_,[],_,h,_=>by simp [DS]at h
theorem Zh (hm:BL B S w0 m) (hs:CF B S m ρ a.eval) {p:Bool} {f:Nat} {o8:List AR} (h:BA P num o.op (.qa p f o8)=true) {cs:List AV} (hc:o8.mapM (λ x=>F7 (ρ x))=some cs) :
  CK B S w0 P o a m (.val (.fn (p&&cs.isEmpty) f (num f) cs)):=by
 obtain ⟨first,xs,n0,rfl,he⟩:=AfF h;have q6:=qX hs he hc;have gf:(xs.map a.eval)=(xs.toList.map a.eval).toArray:=by cases xs;simp
 refine EA hm (u := .func (.func (num f)) #[] (xs.toList.map a.eval).toArray) ?_ (.ca (.fn (p&&cs.isEmpty) f (num f) cs _ (λ h=>by simpa using (Bool.and_eq_true _ _ ▸ h:p=true/\cs.isEmpty=true).2) q6));simp [execOp,n0,Instr.makeFunc,gf]
end
end Go.e8

namespace Go.e8
open Go.RowKit
section
variable {B:Nat} {S:Nat->Prop} {w0:World} {m:M}
variable {P:Program} {num:Nat->Nat} {o:Oper} {a:Act} {ρ:AR->AV}
theorem V6 {cs:List AV} {vs:List Value} (h:CL B S m cs vs) {j:Nat} {c:AV} (hj:cs[j]? = some c) : ∃ u,vs[j]? = some u/\CC B S m c u:=by
 have m9:j<cs.length:=(zS hj).1;have ui:j<vs.length:=by rw[<-h.1];exact m9
 exact ⟨vs[j],zE ui,h.2 j c _ hj (zE ui)⟩
theorem Agx {s:Nat} {b:DM} {w':World} {g:Nat}:CV B S ⟨l7 m s (some g),m.own.put s ((m.own s).new b),w'⟩ (.ptr s (m.own.g8 s) 0 0) (.pointer (some ⟨g,0,none⟩)):=by
 refine .ca (.one (.ptr s (m.own.g8 s) 0 0 ⟨g,0,none⟩ ?_ λ b' m7=>⟨g,?_,by simp⟩))
 ·show _<AH.g8 _ s
  rw[KF];simp
 ·simp [l7]
theorem qF (hm:BL B S w0 m) (s:Nat) (cs:List AV) (vs:Array Value) (e:TypeId) (hc:CL B S m cs vs.toList) (h:(execOp a.eval o).run P m.w = .ok (.value (.pointer (some ⟨m.w.heap.size,0,none⟩))) (m.w.alloc (.cells vs e))) :
  CK B S w0 P o a m (.new s ⟨cs.length,[cs]⟩ (λ t => .ptr s t 0 0)):=by
 intro K Q hK;obtain ⟨h1,h2⟩:=eL hm s ⟨cs.length,[cs]⟩ vs e (by simp) (λ i ew hi j c hj=>by
  cases i with
  | zero =>
   obtain rfl:cs=ew:=by simpa using hi
   obtain ⟨u,hu,w4⟩:=V6 hc hj;exact ⟨u,by simpa using hu,w4⟩
  | succ i=>simp at hi)
 exact QA h (hK _ ⟨l7 m s (some m.w.heap.size),m.own.put s ((m.own s).new ⟨cs.length,[cs]⟩),m.w.alloc (.cells vs e)⟩ rfl h1 h2 Agx)
theorem Wo (hm:BL B S w0 m) (hs:CF B S m ρ a.eval) {s:Nat} {x':AR} (h:BA P num o.op (.box s x')=true) {cs:List AV} (hc:cellsOf (ρ x')=some cs) :
  CK B S w0 P o a m (.new s ⟨cs.length,[cs]⟩ (λ t => .ptr s t 0 0)):=by
 obtain ⟨t,x,n0,h1⟩:=Afr h;exact qF hm s cs (a.eval x).cells t (aS (hs x x' h1) hc) (by simp [execOp,n0,Instr.box,newVar,newRow])
theorem Wj (hm:BL B S w0 m) {s:Nat} {z:List AV} (h:BA P num o.op (.alloc s z)=true):CK B S w0 P o a m (.new s ⟨z.length,[z]⟩ (λ t => .ptr s t 0 0)):=by
 obtain ⟨t,n0,h1⟩:=Afo h;obtain ⟨i,v,hi,hz,he⟩:=mN h1;exact qF hm s z v.cells t (WH he) (by simp [execOp,n0,Instr.alloc,zeroValue,typeInfo,hi,hz,newVar,newRow])
theorem iS (off:Nat) : ∀ (vs:List Value) (k:Nat) (cells:Array Value),off+k+vs.length<=cells.size ->
  ((vs.zipIdx k).foldl (λ cs (x:Value × Nat)=>cs.setIfInBounds (off+x.2) x.1) cells).toList=cells.toList.take (off+k)++vs++cells.toList.drop (off+k+vs.length)
 | [],k,cells,_=>by simp
 | v::r,k,cells,h=>by
  simp only[List.length_cons]at h;rw[List.zipIdx_cons,List.foldl_cons,iS off r (k+1) _ (by simp;omega)];simp only[Array.toList_setIfInBounds,List.length_cons];apply List.ext_getElem?;intro q;have e1:(cells.toList.set (off+k) v).drop (off+(k+1)+r.length)=cells.toList.drop (off+k+(r.length+1)):=by
   rw[show off+(k+1)+r.length=off+k+(r.length+1) by omega];exact List.drop_set_of_lt (by omega)
  have e2:(cells.toList.set (off+k) v).take (off+(k+1))=cells.toList.take (off+k)++[v]:=by
   rw[show off+(k+1)=off+k+1 by omega,List.take_succ_eq_append_getElem (by simp;omega)];simp [List.take_set_of_le]
  rw[e1,e2];simp
theorem iK (place:Nat->Option (Nat × Nat)) (hs:CF B S m ρ a.eval) : ∀ (ps:List (Nat × Operand)) (eu:List (Nat × Nat × AR)) (cs ew:List AV) (vs:Array Value),U6 place ps eu=true->CL B S m cs vs.toList ->
  fill cs (eu.map λ p=>(p.1,p.2.1,ρ p.2.2))=some ew -> ∃ cf,Instr.fill place vs (ps.map λ p=>(p.1,a.eval p.2))=some cf/\CL B S m ew cf.toList
 | [],[],cs,ew,vs,_,hc,hf=>by
  simp [fill]at hf;subst hf;exact ⟨vs,rfl,hc⟩
 | (i,x)::r,(off,n,y)::l,cs,ew,vs,hp,hc,hf=>by
  simp only[U6,Bool.and_eq_true,beq_iff_eq]at hp;obtain ⟨⟨Ks,Cr⟩,hp3⟩:=hp;simp only[List.map_cons,fill]at hf;cases hcell:cellsOf (ρ y) with
  | none=>simp [hcell]at hf
  | some us =>
   simp only[hcell]at hf;split at hf
   ·rename_i hn
    obtain ⟨hn1,Km⟩:=hn;have ga:=aS (hs x y Cr) hcell;have w6:(a.eval x).cells.size=n:=by rw[<-hn1,ga.1];simp
    have Bd:off+(a.eval x).cells.size<=vs.size:=by rw[w6];have:=hc.1;simp at this;omega
    have ud:=iS off (a.eval x).cells.toList 0 vs (by simpa using Bd);have Fx:Instr.fill place vs (((i,x)::r).map λ p=>(p.1,a.eval p.2))=Instr.fill place ((a.eval x).cells.zipIdx.foldl (λ cs (c,j)=>cs.setIfInBounds (off+j) c) vs) (r.map λ p=>(p.1,a.eval p.2)):=by
     simp only[List.map_cons,Instr.fill,Ks];rw[if_neg (by simp;omega)]
    rw[Fx];refine iK place hs r l (splice cs off us) ew _ hp3 ?_ hf;have hz:((a.eval x).cells.zipIdx.foldl (λ cs (c,j)=>cs.setIfInBounds (off+j) c) vs).toList=vs.toList.take off++(a.eval x).cells.toList++vs.toList.drop (off+(a.eval x).cells.toList.length):=by
     rw[<-Array.foldl_toList];simpa using ud
    rw[hz];unfold splice;refine ⟨?_,λ j c v hj hv => ?_⟩
    ·have:=hc.1;have:=ga.1;simp at *;omega
    ·have mh:=hc.1
     have gv:=ga.1;simp only[Array.length_toList]at mh gv;rw[List.getElem?_append]at hj hv;simp only[List.length_append,List.length_take,Array.length_toList]at hj hv;rw[List.getElem?_append]at hj hv;simp only[List.length_take,Array.length_toList]at hj hv;have lk:min off cs.length=off:=by omega
     have gx:min off vs.size=off:=by omega
     rw[lk]at hj;rw[gx]at hv;rw[<-gv]at hv;split at hj
     ·rename_i h1
      rw[if_pos h1]at hv;split at hj
      ·rename_i h2
       rw[if_pos h2]at hv;rw[List.getElem?_take]at hj hv;rw[if_pos h2]at hj hv;exact hc.2 j c v hj hv
      ·rename_i h2
       rw[if_neg h2]at hv;exact ga.2 _ c v hj hv
     ·rename_i h1
      rw[if_neg h1]at hv;rw[List.getElem?_drop]at hj hv;exact hc.2 _ c v hj hv
   ·cases hf
 | [],_::_,_,_,_,hp,_,_=>by simp [U6]at hp
 | _::_,[],_,_,_,hp,_,_=>by simp [U6]at hp
theorem Ve (hm:BL B S w0 m) (hs:CF B S m ρ a.eval) {z:List AV} {eu:List (Nat × Nat × AR)} (h:BA P num o.op (.build z eu)=true) {cs:List AV} (hf:fill z (eu.map λ p=>(p.1,p.2.1,ρ p.2.2))=some cs) :
  CK B S w0 P o a m (.val (.agg cs)):=by
 obtain ⟨t,ps,n0,h1,h2⟩:=Aft h;obtain ⟨i,v,hi,hz,he⟩:=mN h1;have key : ∃ cf,P.built t (ps.map λ p=>(p.1,a.eval p.2)).toList=some cf/\CL B S m cs cf.toList:=by
  unfold fE at h2;unfold Program.built;split at h2
  ·rename_i fs hu
   split at h2
   ·rename_i places hp
    obtain ⟨cf,h3,h4⟩:=iK _ hs ps.toList eu z cs v.cells h2 (WH he) hf;refine ⟨cf,?_,h4⟩;simp only[hi,hu,hz,hp,Array.toList_map];exact h3
   ·cases h2
  ·rename_i n e hu
   split at h2
   ·rename_i ie Kb
    obtain ⟨cf,h3,h4⟩:=iK _ hs ps.toList eu z cs v.cells h2 (WH he) hf;refine ⟨cf,?_,h4⟩;simp only[hi,hu,hz,Kb,Array.toList_map];exact h3
   ·cases h2
  ·cases h2
 obtain ⟨cf,h3,h4⟩:=key;refine EA hm (u := .agg cf) ?_ (.ca (by simpa using CA.agg cs cf.toList h4));simp only[execOp,n0,Sem.run_bind];rw[run_build m.w t _ cf h3];rfl
theorem sV (size:Nat) (hs:CF B S m ρ a.eval) : ∀ (ps:List (Nat × Operand)) (eu:List AR) (k:Nat) (es:List (List AV)) (vs:Array Value),TG k ps eu=true->eu.mapM (λ x=>cellsOf (ρ x))=some es->(∀ e∈es,e.length=size)->vs.size=(k+eu.length)*size ->
  ∃ cf,Instr.fill (λ i=>some (i*size,size)) vs (ps.map λ p=>(p.1,a.eval p.2))=some cf/\cf.size=vs.size/\(∀ q,q<k*size->cf[q]? = vs[q]?) /\ ∀ i cs,es[i]? = some cs -> ∀ j c,cs[j]? = some c -> ∃ u,cf[(k+i)*size+j]? = some u/\CC B S m c u
 | [],[],k,es,vs,_,jc,_,_=>by
  simp at jc;subst jc;exact ⟨vs,rfl,rfl,λ_ _=>rfl,λ i cs hi=>by simp at hi⟩
 | (i,x)::r,y::l,k,es,vs,he,jc,hz,hv=>by
  simp only[TG,Bool.and_eq_true,beq_iff_eq]at he;obtain ⟨⟨rfl,h1⟩,h2⟩:=he;simp only[List.mapM_cons,Option.bind_eq_bind,Option.pure_def]at jc;cases hcell:cellsOf (ρ y) with
  | none=>simp [hcell]at jc
  | some us =>
   cases eg:l.mapM (λ x=>cellsOf (ρ x)) with
   | none=>simp [hcell,eg]at jc
   | some es' =>
    simp [hcell,eg]at jc;subst jc;have ga:=aS (hs x y h1) hcell;have Ow:us.length=size:=hz us (by simp);have w6:(a.eval x).cells.size=size:=by rw[<-Ow,ga.1];simp
    simp only[List.length_cons]at hv;have hle:i*size+size<=vs.size:=by rw[hv,show i+(l.length+1)=i+1+l.length by omega,Nat.add_mul,Nat.add_mul];omega
    have ud:=iS (i*size) (a.eval x).cells.toList 0 vs (by simp [w6];omega);generalize Gb:(a.eval x).cells.zipIdx.foldl (λ cs (c,j)=>cs.setIfInBounds (i*size+j) c) vs=Dc;have fw:Dc.toList=vs.toList.take (i*size)++(a.eval x).cells.toList++vs.toList.drop (i*size+size):=by
     rw[<-Gb,<-Array.foldl_toList];simpa [w6] using ud
    have Hl:Dc.size=vs.size:=by
     have:=congrArg List.length fw
     simp [w6]at this;omega
    obtain ⟨cf,h3,h4,h5,h6⟩:=sV size hs r l (i+1) es' Dc h2 eg (λ e he=>hz e (by simp [he])) (by rw[Hl,hv];congr 1;omega);refine ⟨cf,?_,h4.trans Hl,λ q hq => ?_,λ i' cs q7 j c hj => ?_⟩
    ·simp only[List.map_cons,Instr.fill]
     rw[if_neg (by simp [w6];omega),Gb];exact h3
    ·rw[h5 q (by rw[Nat.add_mul];omega)]
     have:Dc.toList[q]? = vs.toList[q]? := by
      rw[fw,List.append_assoc,List.getElem?_append_left (by simp;omega),List.getElem?_take,if_pos hq]
     simpa using this
    ·cases i' with
     | zero =>
      obtain rfl:us=cs:=by simpa using q7
      obtain ⟨u,hu,w4⟩:=V6 ga hj;have dv:j<size:=by rw[<-Ow];exact (zS hj).1
      refine ⟨u,?_,w4⟩;rw[Nat.add_zero,h5 _ (by rw[Nat.add_mul];omega)];have:Dc.toList[i*size+j]? = some u:=by
       rw[fw,List.append_assoc,List.getElem?_append_right (by simp;omega)];simp only[List.length_take,Array.length_toList,show min (i*size) vs.size=i*size by omega,show i*size+j-i*size=j by omega];rw[List.getElem?_append_left (by simp [w6];omega)];exact hu
      simpa using this
     | succ i' =>
      obtain ⟨u,hu,w4⟩:=h6 i' cs (by simpa using q7) j c hj;exact ⟨u,by rw[show i+(i'+1)=i+1+i' by omega];exact hu,w4⟩
 | [],_::_,_,_,_,he,_,_,_=>by simp [TG]at he
 | _::_,[],_,_,_,he,_,_,_=>by simp [TG]at he
theorem vP {s z n cap:Nat} {es:List (List AV)} {w':World} {g:Nat} {arr:Array Value} {e:TypeId} (hz:0<z) (hn:n<=cap) (hg:w'.heap[g]? = some (.cells arr e (0,0))) (hc:cap*z<=arr.size) :
  CV B S ⟨l7 m s (some g),m.own.put s ((m.own s).new ⟨z,es⟩),w'⟩ (.row s (m.own.g8 s) z 0 n) (.slice (some ⟨g,0,none⟩) n cap):=by
 refine .ca (.one (.row s (m.own.g8 s) z 0 n _ cap ?_ hz hn (λ_=>rfl) λ b' m7=>⟨?_,.inr ⟨g,arr,e,?_,by simp,hg,by simpa using hc⟩⟩))
 ·show _<AH.g8 _ s
  rw[KF];simp
 ·change AH.get _ s _=some b' at m7
  rw[FO,if_pos ⟨rfl,rfl⟩]at m7;obtain rfl:(⟨z,es⟩:DM)=b':=by simpa using m7
  rfl
 ·simp [l7]
theorem qJ (hm:BL B S w0 m) (s z n cap:Nat) (es:List (List AV)) (vs:Array Value) (e:TypeId) (er:0<z) (hn:n<=cap) (w6:cap*z<=vs.size) (hz : ∀ x∈es,x.length=z)
  (hc : ∀ i cs,es[i]? = some cs -> ∀ j c,cs[j]? = some c -> ∃ u,vs[i*z+j]? = some u/\CC B S m c u)
  (h:(execOp a.eval o).run P m.w = .ok (.value (.slice (some ⟨m.w.heap.size,0,none⟩) n cap)) (m.w.alloc (.cells vs e))) :
  CK B S w0 P o a m (.new s ⟨z,es⟩ (λ t => .row s t z 0 n)):=by
 intro K Q hK;obtain ⟨h1,h2⟩:=eL hm s ⟨z,es⟩ vs e hz hc;exact QA h (hK _ ⟨l7 m s (some m.w.heap.size),m.own.put s ((m.own s).new ⟨z,es⟩),m.w.alloc (.cells vs e)⟩ rfl h1 h2 (vP er hn (heap_alloc_new _ _) w6))
theorem Wp (hm:BL B S w0 m) (hs:CF B S m ρ a.eval) {s b9:Nat} {eu:List AR} (h:BA P num o.op (.c9 s b9 eu)=true) {es:List (List AV)} (jc:eu.mapM (λ x=>cellsOf (ρ x))=some es) (hz : ∀ e∈es,e.length=b9) :
  CK B S w0 P o a m (.new s ⟨b9,es⟩ (λ t => .row s t b9 0 es.length)):=by
 obtain ⟨t,n,ps,e,i,n0,hu,hi,w6,h0,hn,Ll,ff,hzero⟩:=Afs h;have hlen:es.length=n:=by
  rw[hn];clear h ff hzero hn;induction eu generalizing es with
  | nil=>simp at jc;subst jc;rfl
  | cons y l ih =>
   simp only[List.mapM_cons,Option.bind_eq_bind,Option.pure_def]at jc;cases hcell:cellsOf (ρ y) with
   | none=>simp [hcell]at jc
   | some us =>
    cases eg:l.mapM (λ x=>cellsOf (ρ x)) with
    | none=>simp [hcell,eg]at jc
    | some es' =>
     simp [hcell,eg]at jc;subst jc;simp [ih eg (λ e he=>hz e (by simp [he]))]
 obtain ⟨zc,Ge⟩ : ∃ zc:Array Value,(n*b9=0/\zc = #[])\/(¬ n*b9=0 /\ ∃ z,i.zero=some z/\zc=z.cells):=by
  by_cases m8:n*b9=0
  ·exact ⟨#[],.inl ⟨m8,rfl⟩⟩
  ·rcases hzero with wu|⟨z,fw,qw⟩
   ·simp [wu]at m8
   ·exact ⟨z.cells,.inr ⟨m8,z,fw,rfl⟩⟩
 have Gi:((Array.range (n*b9)).map (zc[· % zc.size]!)).size=n*b9:=by simp
 obtain ⟨cf,h3,h4,_,h6⟩:=sV b9 hs ps.toList eu 0 es _ ff jc hz (by rw[Gi,hn];simp);have u4:(execOp a.eval o).run P m.w = .ok (.value (.slice (some ⟨m.w.heap.size,0,none⟩) n n)) (m.w.alloc (.cells cf e)):=by
  simp only[execOp,n0,Instr.buildSlice,Sem.run_bind,run_underlying hu,Result.andThen_ok,sizeOf,typeInfo,run_program,hi,Sem.run_pure,w6];simp only[show ¬ (n*b9>2^24) from by omega,if_false,Sem.run_bind,Sem.run_pure,Result.andThen_ok];rcases Ge with ⟨wu,rfl⟩|⟨wu,z,fw,rfl⟩
  ·simp only[wu,if_true,Sem.run_bind,Sem.run_pure,Result.andThen_ok,Array.toList_map]
   rw[wu]at h3;rw[h3];rfl
  ·simp only[wu,if_false,Sem.run_bind,Sem.run_pure,Result.andThen_ok,Array.toList_map,zeroValue,typeInfo,run_program,hi,fw]
   rw[h3];rfl
 rw[hlen];exact qJ hm s b9 n n es cf e (Nat.pos_of_ne_zero h0) (Nat.le_refl _) (by rw[h4,Gi];exact Nat.le_refl _) hz (λ i cs q7 j c hj=>by simpa using h6 i cs q7 j c hj) u4
end
end Go.e8

namespace Go.e8
open Go.RowKit
section
variable {B:Nat} {S:Nat->Prop} {w0:World} {m:M}
variable {P:Program} {num:Nat->Nat} {o:Oper} {a:Act} {ρ:AR->AV}
theorem aR {x:AV} {v:Value} (h:CV B S m x v) (h1:x ≠ .any) (h2 : ∀ cs,x ≠ .agg cs) (h3 : ∀ cs,x ≠ .l6 cs) (h4 : ∀ p f g cs,x ≠ .fn p f g cs:=by intros;simp):CC B S m x v:=by
 cases h with
 | any=>exact absurd rfl h1
 | l6 as=>exact absurd rfl (h3 as)
 | ca h=>cases h with
  | one h=>exact h
  | agg cs=>exact absurd rfl (h2 cs)
  | fn p f g cs=>exact absurd rfl (h4 p f g cs)
  | tk f g cs=>exact absurd rfl (h4 true f g cs)
theorem YB {s t i j:Nat} {v:Value} (h:CV B S m (.ptr s t i j) v) : ∃ ad,v = .pointer (some ad)/\t<m.own.g8 s /\ ∀ b,m.own.get s t=some b -> ∃ g,m.ν s t=some g/\ad=⟨g,i*b.b9+j,none⟩:=by
 cases aR h (by simp) (by simp) (by simp) with
 | rd h=>cases h
 | ptr s t i j ad ht h'=>exact ⟨ad,rfl,ht,h'⟩
theorem fX {cs:List AV} {v:Value} (h:CV B S m (.u6 cs) v) : ∃ (b o:Nat) (u:Nat->Value) (l:Bool),v = .pointer (some ⟨b,o,none⟩)/\(cs≠[]->safe B S m l b)/\(∀ j c,cs[j]? = some c->m.w.cell? ⟨b,o+j,none⟩=some (u j))/\(∀ j c,cs[j]? = some c->Rd m.w (safe B S m) c (u j)):=by
 cases aR h (by simp) (by simp) (by simp) with
 | rd h=>cases h
 | u6 _ b o u l h1 h2 h3=>exact ⟨b,o,u,l,rfl,h1,h2,h3⟩
theorem WA {s t z off len:Nat} {v:Value} (h:CV B S m (.row s t z off len) v) : ∃ (ad:Option Addr) (cap:Nat),v = .slice ad len cap/\t<m.own.g8 s/\0<z/\len<=cap/\(0<len->ad.isSome=true) /\
  ∀ b,m.own.get s t=some b->b.b9=z/\((len=0/\cap=0) \/ ∃ g arr e,m.ν s t=some g/\ad=some ⟨g,off*z,none⟩/\m.w.heap[g]? = some (.cells arr e (0,0))/\(off+cap)*z<=arr.size):=by
 cases aR h (by simp) (by simp) (by simp) with
 | rd h=>cases h
 | row s t z off len ad cap ht er oc ha h'=>exact ⟨ad,cap,rfl,ht,er,oc,ha,h'⟩
theorem aT {l:Bool} {es:List (List AV)} {v:Value} (h:CV B S m (.sl l es) v):Rd m.w (safe B S m) (.sl l es) v:=by
 cases aR h (by simp) (by simp) (by simp) with
 | rd h=>exact h
theorem Yy (hm:BL B S w0 m) (hs:CF B S m ρ a.eval) {x':AR} {off:Nat} (h:BA P num o.op (.a6 x' off)=true) {s t i j:Nat} (hx:ρ x' = .ptr s t i j):CK B S w0 P o a m (.val (.ptr s t i (j+off))):=by
 obtain ⟨ty,x,f,fs,fd,inf,n0,h1,hu,hf,ho,hi,w6⟩:=uC h;obtain ⟨ad,hv,ht,hb⟩:=YB (hx ▸ hs x x' h1);refine EA hm (u := .pointer (some (ad.add off))) ?_ (.ca (.one (.ptr s t i (j+off) _ ht λ b m7 => ?_)))
 ·simp [execOp,n0,hv,Instr.fieldAt,run_underlying hu,hf,Instr.sureAddr,fieldPlace,sizeOf,typeInfo,hi,w6,ho]
 ·obtain ⟨g,hg,rfl⟩:=hb b m7
  exact ⟨g,hg,by rw[GQ];simp;omega⟩
theorem Vo (hm:BL B S w0 m) (hs:CF B S m ρ a.eval) {x':AR} {off:Nat} (h:BA P num o.op (.a6 x' off)=true) {cs:List AV} (hx:ρ x' = .u6 cs):CK B S w0 P o a m (.val (.u6 (cs.drop off))):=by
 obtain ⟨ty,x,f,fs,fd,inf,n0,h1,hu,hf,ho,hi,w6⟩:=uC h;obtain ⟨b,ob,u,l,hv,hR,hc,hr⟩:=fX (hx ▸ hs x x' h1);refine EA hm (u := .pointer (some ⟨b,ob+off,none⟩)) ?_ (.ca (.one (.u6 _ b (ob+off) (λ j=>u (off+j)) l (λ m8=>hR (λ e=>m8 (by simp [e]))) (λ j c hj => ?_) (λ j c hj => ?_))))
 ·simp [execOp,n0,hv,Instr.fieldAt,run_underlying hu,hf,Instr.sureAddr,fieldPlace,sizeOf,typeInfo,hi,w6,ho,GQ]
 ·rw[List.getElem?_drop]at hj
  rw[Nat.add_assoc];exact hc _ c hj
 ·rw[List.getElem?_drop]at hj
  exact hr _ c hj
theorem cK {agg:Bool} {cs:List AV} {v:AV} (h:J2 agg cs=some v) {vs:List Value} (hc:CL B S m cs vs):CV B S m v (if agg then .agg vs.toArray else vs.getD 0 undef)/\(agg=false->vs.length=1):=by
 unfold J2 at h;cases agg with
 | true =>
  obtain rfl:AV.agg cs=v:=by simpa using h
  exact ⟨.ca (.agg cs vs hc),by simp⟩
 | false =>
  simp only[Bool.false_eq_true,if_false]at h;split at h
  ·rename_i c
   obtain rfl:c=v:=by simpa using h
   obtain ⟨u,hu,w4⟩:=V6 hc (j:=0) (c:=c) rfl;refine ⟨?_,λ_=>by rw[<-hc.1];rfl⟩;simp only[Bool.false_eq_true,if_false,List.getD,hu,Option.getD_some];exact .ca (.one w4)
  ·cases h
theorem AhG (t:TypeId) (agg:Bool) (inf:TypeInfo) (iw : ∀ w,(isAgg t).run P w = .ok agg w) (hi:P.info? t=some inf) (vs:List Value) (off n:Nat) (hn:inf.size=n) (hle:off+n<=vs.length) (h1:agg=false->n=1) (w:World) :
  (Go.part t vs.toArray off).run P w = .ok (if agg then .agg ((vs.drop off).take n).toArray else ((vs.drop off).take n).getD 0 undef) w:=by
 unfold Go.part;rw[Sem.run_bind,iw w];cases agg with
 | true=>simp [sizeOf,typeInfo,hi,hn,List.extract_eq_take_drop]
 | false =>
  have m9:off<vs.length:=by have:=h1 rfl;omega
  simp [m9,h1 rfl]
theorem Yz (hm:BL B S w0 m) (hs:CF B S m ρ a.eval) {x':AR} {off n:Nat} {agg:Bool} (h:BA P num o.op (.ox x' off n agg)=true) {cs ds:List AV} {v:AV} (hx:ρ x' = .agg cs) (hp:part cs off n=some ds) (hv:J2 agg ds=some v) :
  CK B S w0 P o a m (.val v):=by
 obtain ⟨ty,x,f,fs,fd,inf,n0,h1,hu,hf,ho,hi,w6,iw,h0⟩:=AfB h;obtain ⟨vs,cp,q6⟩:=Xe (hx ▸ hs x x' h1);unfold e8.part at hp;split at hp
 ·rename_i hle
  obtain rfl:(cs.drop off).take n=ds:=by simpa using hp
  obtain ⟨w5,lq⟩:=cK hv (Sw q6 off n);have hl:=q6.1;have wv:agg=false->n=1:=λ e=>by have:=lq e;simp at this;omega
  refine EA hm ?_ w5;simp only[execOp,n0,Sem.run_bind,Instr.field,run_underlying hu,Result.andThen_ok,hf,cp,asAgg,Sem.run_pure,ho];rw[AhG fd.type agg inf iw hi vs off n w6 (by omega) wv];rfl
 ·cases hp
theorem Za (hm:BL B S w0 m) (hs:CF B S m ρ a.eval) {len b9:Nat} {x' i':AR} (h:BA P num o.op (.a5 (some len) b9 x' i')=true) {k:IntKind} {n:Int} {s t i0 j:Nat} (q7:ρ i' = .int k n) (hx:ρ x' = .ptr s t i0 j) (h0:0<=n) (hn:n<len) :
  CK B S w0 P o a m (.val (.ptr s t i0 (j+n.toNat*b9))):=by
 obtain ⟨ty,x,i,e,inf,n0,h1,h2,hi,w6,fi⟩:=bS h;rcases fi with ⟨rz,hl,hu,m9⟩|⟨hl,_⟩
 ·obtain rfl:len=rz:=by simpa using hl
  obtain ⟨ad,hv,ht,hb⟩:=YB (hx ▸ hs x x' h1);have vz:=HN (q7 ▸ hs i i' h2);refine EA hm (u := .pointer (some (ad.add (n.toNat*b9)))) ?_ (.ca (.one (.ptr s t i0 (j+n.toNat*b9) _ ht λ b m7 => ?_)))
  ·simp [execOp,n0,hv,vz,Instr.indexAt,asIntOf,run_underlying hu,Instr.sureAddr,sizeOf,typeInfo,hi,w6,h0,hn]
  ·obtain ⟨g,hg,rfl⟩:=hb b m7
   exact ⟨g,hg,by rw[GQ];simp;omega⟩
 ·cases hl
theorem Add (hm:BL B S w0 m) (hs:CF B S m ρ a.eval) {len b9:Nat} {x' i':AR} (h:BA P num o.op (.a5 (some len) b9 x' i')=true) {k:IntKind} {n:Int} {cs:List AV} (q7:ρ i' = .int k n) (hx:ρ x' = .u6 cs) (h0:0<=n) (hn:n<len) :
  CK B S w0 P o a m (.val (.u6 (cs.drop (n.toNat*b9)))):=by
 obtain ⟨ty,x,i,e,inf,n0,h1,h2,hi,w6,fi⟩:=bS h;rcases fi with ⟨rz,hl,hu,m9⟩|⟨hl,_⟩
 ·obtain rfl:len=rz:=by simpa using hl
  obtain ⟨b,ob,u,l,hv,hR,hc,hr⟩:=fX (hx ▸ hs x x' h1);have vz:=HN (q7 ▸ hs i i' h2);refine EA hm (u := .pointer (some ⟨b,ob+n.toNat*b9,none⟩)) ?_ (.ca (.one (.u6 _ b (ob+n.toNat*b9) (λ j=>u (n.toNat*b9+j)) l (λ m8=>hR (λ e=>m8 (by simp [e]))) (λ j c hj => ?_) (λ j c hj => ?_))))
  ·simp [execOp,n0,hv,vz,Instr.indexAt,asIntOf,run_underlying hu,Instr.sureAddr,sizeOf,typeInfo,hi,w6,h0,hn,GQ]
  ·rw[List.getElem?_drop]at hj
   rw[Nat.add_assoc];exact hc _ c hj
  ·rw[List.getElem?_drop]at hj
   exact hr _ c hj
 ·cases hl
theorem xJ (ty e:TypeId) (inf:TypeInfo) (hu:P.underlying ty=some (.slice e)) (hi:P.info? e=some inf) (ad:Addr) (len cap:Nat) (k:IntKind) (n:Int) (h0:0<=n) (hn:n<len) (w:World) :
  (Instr.indexAt ty (.slice (some ad) len cap) (.int k n)).run P w = .ok (.pointer (some (ad.add (n.toNat*inf.size)))) w:=by
 simp [Instr.indexAt,asIntOf,run_underlying hu,sizeOf,typeInfo,hi,h0,hn]
theorem Zb (hm:BL B S w0 m) (hs:CF B S m ρ a.eval) {b9:Nat} {x' i':AR} (h:BA P num o.op (.a5 none b9 x' i')=true) {k:IntKind} {n:Int} {s t z off len:Nat} (q7:ρ i' = .int k n) (hx:ρ x' = .row s t z off len) (h0:0<=n) (hn:n<len) (hz:z=b9) :
  CK B S w0 P o a m (.val (.ptr s t (off+n.toNat) 0)):=by
 obtain ⟨ty,x,i,e,inf,n0,h1,h2,hi,w6,fi⟩:=bS h;rcases fi with ⟨_,hl,_⟩|⟨_,hu,_⟩
 ·cases hl
 ·obtain ⟨ad,cap,hv,ht,er,oc,ha,hb⟩:=WA (hx ▸ hs x x' h1)
  have vz:=HN (q7 ▸ hs i i' h2);obtain ⟨Bw,rfl⟩:=Option.isSome_iff_exists.1 (ha (by omega));refine EA hm (u := .pointer (some (Bw.add (n.toNat*b9)))) ?_ (.ca (.one (.ptr s t (off+n.toNat) 0 _ ht λ b m7 => ?_)))
  ·simp only[execOp,n0,hv,vz,Sem.run_bind]
   rw[xJ ty e inf hu hi Bw len cap k n h0 hn,w6];rfl
  ·obtain ⟨ql,fi⟩:=hb b m7
   rcases fi with ⟨jv,_⟩|⟨g,arr,e',hg,lg,_,_⟩
   ·omega
   ·obtain rfl:Bw=⟨g,off*z,none⟩:=by simpa using lg
    exact ⟨g,hg,by rw[GQ,ql,<-hz,Nat.add_mul];rfl⟩
theorem Zc (hm:BL B S w0 m) (hs:CF B S m ρ a.eval) {b9:Nat} {x' i':AR} (h:BA P num o.op (.a5 none b9 x' i')=true) {k:IntKind} {n:Int} {l:Bool} {es:List (List AV)} {cs:List AV} (q7:ρ i' = .int k n) (hx:ρ x' = .sl l es) (h0:0<=n) (hn:es[n.toNat]? = some cs) (hz:cs.length=b9) :
  CK B S w0 P o a m (.val (.u6 cs)):=by
 obtain ⟨ty,x,i,e,inf,n0,h1,h2,hi,w6,fi⟩:=bS h;rcases fi with ⟨_,hl,_⟩|⟨_,hu,_⟩
 ·cases hl
 ·have mo:=aT (hx ▸ hs x x' h1)
  have vz:=HN (q7 ▸ hs i i' h2);have m9:n.toNat<es.length:=(zS hn).1;generalize cp:a.eval x=v at mo;cases mo with
  | jl=>simp at m9
  | sl _ _ b ob w3 cap u m8 hp hR br jk hc hr =>
   have Gf:w3=b9:=by
    rw[<-hz];exact (jk cs (zM hn)).symm
   subst Gf;refine EA hm (u := .pointer (some ⟨b,ob+n.toNat*w3,none⟩)) ?_ (.ca (.one (.u6 _ b (ob+n.toNat*w3) (u n.toNat) l (λ_=>hR) (λ j c hj => ?_) (λ j c hj=>hr _ cs hn j c hj))))
   ·simp only[execOp,n0,cp,vz,Sem.run_bind]
    rw[xJ ty e inf hu hi ⟨b,ob,none⟩ es.length cap k n h0 (by omega),w6,GQ];rfl
   ·rw[Nat.add_assoc]
    exact hc _ cs hn j c hj
end
end Go.e8

namespace Go.e8
open Go.RowKit
section
variable {B:Nat} {S:Nat->Prop} {w0:World} {m:M}
variable {P:Program} {num:Nat->Nat} {o:Oper} {a:Act} {ρ:AR->AV}
theorem kU (t:TypeId) (agg:Bool) (n:Nat) (iw : ∀ w,(isAgg t).run P w = .ok agg w) (hn:if agg then ∃ i,P.info? t=some i/\i.size=n else n=1) (ad:Addr) (vs:List Value) (hl:vs.length=n) (w:World)
  (hc : ∀ q v,vs[q]? = some v->w.cell? (ad.add q)=some v):(Instr.loadAt t (.pointer (some ad))).run P w = .ok (if agg then .agg vs.toArray else vs.getD 0 undef) w:=by
 unfold Instr.loadAt loadVar;simp only[Instr.sureAddr,Sem.run_bind,Sem.run_pure,Result.andThen_ok,iw w];cases agg with
 | true =>
  simp only[if_true]at hn;obtain ⟨i,hi,hs⟩:=hn;have:=run_loadCells_list (P:=P) w ad vs hc
  simp [sizeOf,typeInfo,hi,hs,<-hl,this]
 | false =>
  simp only[Bool.false_eq_true,if_false]at hn ⊢;have m9:0<vs.length:=by omega
  have h0:=hc 0 vs[0] (zE m9);have wu:w.cell? ad=some vs[0]:=by simpa [Addr.add] using h0
  simp [load,Sem.run,wu,m9]
theorem wH (hm:BL B S w0 m) {s t i j n:Nat} {cs:List AV} (h:m.own.px s t i j n=some cs) : ∃ b g arr e,m.own.get s t=some b/\(0<n->m.ν s t=some g/\m.w.heap[g]? = some (.cells arr e (0,0))) /\
  ∃ vs:List Value,vs.length=n/\CL B S m cs vs /\ ∀ q v,vs[q]? = some v->arr[i*b.b9+j+q]? = some v:=by
 unfold AH.px at h;cases hb:m.own.get s t with
 | none=>simp [hb]at h
 | some b =>
  simp only[hb]at h;cases he:b.es[i]? with
  | none=>simp [he]at h
  | some ds =>
   simp only[he,part]at h;split at h
   ·rename_i hle
    obtain rfl:(ds.drop j).take n=cs:=by simpa using h
    obtain ⟨hz,dm⟩:=hm.e7 s t b hb;cases hν:m.ν s t with
    | none =>
     rw[hν]at dm;rw[dm]at he;simp at he
    | some g =>
     rw[hν]at dm;obtain ⟨hB,arr,e,hh,w4⟩:=dm;have w6 : ∀ q,q<n -> ∃ u,arr[i*b.b9+j+q]? = some u:=λ q hq=>by
      have m9:j+q<ds.length:=by omega
      obtain ⟨u,hu,_⟩:=w4 i ds he (j+q) ds[j+q] (zE m9);exact ⟨u,by rw[<-hu];congr 1;omega⟩
     refine ⟨b,g,arr,e,rfl,λ_=>⟨rfl,hh⟩,(arr.toList.drop (i*b.b9+j)).take n,?_,⟨?_,?_⟩,?_⟩
     ·rw[List.length_take,List.length_drop]
      rcases Nat.eq_zero_or_pos n with h0|h0
      ·omega
      ·obtain ⟨u,hu⟩:=w6 (n-1) (by omega)
       have:=(Array.getElem?_eq_some_iff.1 hu).1
       simp;omega
     ·rw[List.length_take,List.length_take,List.length_drop,List.length_drop]
      rcases Nat.eq_zero_or_pos n with h0|h0
      ·omega
      ·obtain ⟨u,hu⟩:=w6 (n-1) (by omega)
       have:=(Array.getElem?_eq_some_iff.1 hu).1
       simp;omega
     ·intro q c v hq hv
      rw[List.getElem?_take]at hq hv;split at hq
      ·rename_i Fk
       rw[if_pos Fk]at hv;rw[List.getElem?_drop]at hq hv;obtain ⟨u,hu,hc⟩:=w4 i ds he (j+q) c hq;have:some u=some v:=by
        rw[<-hu,<-hv];simp only[Array.getElem?_toList];congr 1;omega
       obtain rfl:u=v:=by simpa using this
       exact hc
      ·cases hq
     ·intro q v hv
      rw[List.getElem?_take]at hv;split at hv
      ·rw[List.getElem?_drop]at hv
       simpa using hv
      ·cases hv
   ·cases h
theorem aK {w:World} {g p:Nat} {arr:Array Value} {e:TypeId} (h:w.heap[g]? = some (.cells arr e (0,0))):w.cell? ⟨g,p,none⟩=arr[p]? := by
 simp [World.cell?,h]
theorem Ze (hm:BL B S w0 m) (hs:CF B S m ρ a.eval) {agg:Bool} {n:Nat} {x':AR} (h:BA P num o.op (.ld agg n x')=true) {s t i j:Nat} {cs:List AV} {v:AV} (hx:ρ x' = .ptr s t i j) (hl:m.own.px s t i j n=some cs) (hv:J2 agg cs=some v) :
  CK B S w0 P o a m (.val v):=by
 obtain ⟨ty,x,n0,h1,iw,hn⟩:=uD h;obtain ⟨ad,cp,ht,hb⟩:=YB (hx ▸ hs x x' h1);obtain ⟨b,g,arr,e,o7,hg,vs,ma,q6,ia⟩:=wH hm hl;obtain ⟨w5,_⟩:=cK hv q6;refine EA hm ?_ w5;simp only[execOp,n0,Sem.run_bind,cp];rw[kU ty agg n iw hn ad vs ma m.w (λ q u hq => ?_)]
 ·rfl
 ·have m9:q<vs.length:=(zS hq).1
  obtain ⟨Ay,kn⟩:=hg (by omega);obtain ⟨g',fh,rfl⟩:=hb b o7;obtain rfl:g=g':=by rw[Ay]at fh;simpa using fh
  rw[GQ,aK kn];exact ia q u hq
theorem Zd (hm:BL B S w0 m) (hs:CF B S m ρ a.eval) {agg:Bool} {n:Nat} {x':AR} (h:BA P num o.op (.ld agg n x')=true) {cs ds:List AV} {v:AV} (hx:ρ x' = .u6 cs) (hl:part cs 0 n=some ds) (hv:J2 agg ds=some v) :
  CK B S w0 P o a m (.val v):=by
 obtain ⟨ty,x,n0,h1,iw,hn⟩:=uD h;obtain ⟨b,ob,u,l,cp,hR,hc,hr⟩:=fX (hx ▸ hs x x' h1);unfold e8.part at hl;split at hl
 ·rename_i hle
  obtain rfl:(cs.drop 0).take n=ds:=by simpa using hl
  have q6:CL B S m ((cs.drop 0).take n) ((List.range n).map u):=by
   refine ⟨by simp;omega,λ q c v' hq og => ?_⟩;simp only[List.drop_zero,List.getElem?_take]at hq;split at hq
   ·rename_i Fk
    simp [Fk]at og;subst og;exact .rd (hr q c hq)
   ·cases hq
  obtain ⟨w5,_⟩:=cK hv q6;refine EA hm ?_ w5;simp only[execOp,n0,Sem.run_bind,cp];rw[kU ty agg n iw hn ⟨b,ob,none⟩ ((List.range n).map u) (by simp) m.w (λ q w' hq => ?_)]
  ·rfl
  ·have Fk:q<n:=by have:=(zS hq).1;simpa using this
   simp [Fk]at hq;subst hq;rw[GQ];exact hc q cs[q] (zE (by omega))
 ·cases hl
theorem lN {α:Type} (l:List α) (off:Nat) (vs:List α) (h:off+vs.length<=l.length) (q:Nat):(l.take off++vs++l.drop (off+vs.length))[q]? = if q<off then l[q]? else if q<off+vs.length then vs[q-off]? else l[q]? := by
 rw[List.append_assoc];by_cases h1:q<off
 ·rw[if_pos h1,List.getElem?_append_left (by simp;omega),List.getElem?_take,if_pos h1]
 ·rw[if_neg h1,List.getElem?_append_right (by simp;omega)]
  have e1:(l.take off).length=off:=by simp;omega
  rw[e1];by_cases h2:q<off+vs.length
  ·rw[if_pos h2,List.getElem?_append_left (by omega)]
  ·rw[if_neg h2,List.getElem?_append_right (by omega),List.getElem?_drop]
   congr 1;omega
theorem nX (hm:BL B S w0 m) {g:Nat} (hB:B<=g) (arr:Array Value):Below B w0 (m.w.setRow g arr) :=
 hm.below.trans ⟨rfl,rfl,rfl,by simp,λ k hk=>setRow_other _ _ _ _ (by omega)⟩
theorem qK (hm:BL B S w0 m) (hs:CF B S m ρ a.eval) {n:Nat} {x' v':AR} (h:BA P num o.op (.st n x' v')=true) {s t i j:Nat} {vs:List AV} {n9:AH} (hx:ρ x' = .ptr s t i j) (hv:cellsOf (ρ v')=some vs) (hn:vs.length=n) (m5:m.own.me s t i j vs=some n9) :
  CK B S w0 P o a m (.ea (.l6 []) n9):=by
 obtain ⟨ty,x,v,inf,n0,h1,h2,hi,w6⟩:=AfM h;obtain ⟨ad,cp,ht,hb⟩:=YB (hx ▸ hs x x' h1);have q6:=aS (hs v v' h2) hv;unfold AH.me at m5;cases o7:m.own.get s t with
 | none=>simp [o7]at m5
 | some b =>
  simp only[o7]at m5;cases he:b.es[i]? with
  | none=>simp [he]at m5
  | some cs =>
   simp only[he]at m5;split at m5
   ·rename_i hle
    obtain rfl:=Option.some.inj m5;obtain ⟨hz,dm⟩:=hm.e7 s t b o7;obtain ⟨g,hg,rfl⟩:=hb b o7;rw[hg]at dm;obtain ⟨hB,arr,e,hh,w4⟩:=dm;have Jn:cs.length=b.b9:=hz cs (zM he);have hlen:(a.eval v).cells.toList.length=vs.length:=q6.1.symm;have aw:i<b.es.length:=(zS he).1;have Bd:i*b.b9+j+vs.length<=arr.size:=by
     rcases Nat.eq_zero_or_pos vs.length with h0|h0
     ·rcases Nat.eq_zero_or_pos j with lj|lj
      ·rw[h0,lj]
       rcases Nat.eq_zero_or_pos i with uf|uf
       ·rw[uf];omega
       ·rcases Nat.eq_zero_or_pos b.b9 with er|er
        ·rw[er];omega
        ·have Nv:i-1<b.es.length:=by omega
         have mh:(b.es[i-1]).length=b.b9:=hz _ (List.getElem_mem Nv);obtain ⟨u,hu,_⟩:=w4 (i-1) _ (zE Nv) (b.b9-1) _ (zE (by omega));have:=(Array.getElem?_eq_some_iff.1 hu).1
         have e1:(i-1)*b.b9+b.b9=i*b.b9:=by
          rw[<-Nat.succ_mul];congr 1;omega
         omega
      ·obtain ⟨u,hu,_⟩:=w4 i cs he (j-1) cs[j-1] (zE (by omega))
       have:=(Array.getElem?_eq_some_iff.1 hu).1
       omega
     ·obtain ⟨u,hu,_⟩:=w4 i cs he (j+vs.length-1) cs[j+vs.length-1] (zE (by omega))
      have:=(Array.getElem?_eq_some_iff.1 hu).1
      omega
    have lq:=Sv q6;have vb:=run_storeCells_at (P:=P) g (i*b.b9+j) e (a.eval v).cells.toList 0 arr m.w hh (by rw[hlen];omega) lq;generalize na:(arr.toList.take (i*b.b9+j+0)++(a.eval v).cells.toList++arr.toList.drop (i*b.b9+j+0+(a.eval v).cells.toList.length)).toArray=v9 at vb;have yy : ∀ p,v9[p]? = if p<i*b.b9+j then arr[p]? else if p<i*b.b9+j+vs.length then (a.eval v).cells.toList[p-(i*b.b9+j)]? else arr[p]? := λ p=>by
     rw[<-na];simp only[Nat.add_zero,List.getElem?_toArray];rw[lN _ _ _ (by rw[hlen];simpa using Bd),hlen];simp only[Array.getElem?_toList]
    have pf:v9.size=arr.size:=by
     rw[<-na];simp [hlen];have:=hlen
     simp at this;omega
    obtain ⟨k1,k2⟩:=AiB hm s t b ⟨b.b9,b.es.set i (splice cs j vs)⟩ o7 g hg arr v9 e hh rfl (λ y hy=>by
      rcases List.mem_or_eq_of_mem_set hy with hy|hy
      ·exact hz y hy
      ·rw[hy,<-Jn];simp [splice];omega) pf
     (λ i' ew q7 q c hq=>by
      show ∃ u,v9[i'*b.b9+q]? = some u/\_;change (b.es.set i (splice cs j vs))[i']? = some ew at q7;by_cases Nx:i'=i
      ·subst Nx
       rw[List.getElem?_set_self aw]at q7;obtain rfl:splice cs j vs=ew:=by simpa using q7
       unfold splice at hq;rw[lN _ _ _ hle]at hq;rw[yy];by_cases zk:q<j
       ·rw[if_pos zk]at hq
        rw[if_pos (by omega)];exact w4 i' cs he q c hq
       ·rw[if_neg zk]at hq
        rw[if_neg (by omega)];by_cases Ct:q<j+vs.length
        ·rw[if_pos Ct]at hq
         rw[if_pos (by omega)];obtain ⟨u,hu,ga⟩:=V6 q6 hq;exact ⟨u,by rw[<-hu];congr 1;omega,ga⟩
        ·rw[if_neg Ct]at hq
         rw[if_neg (by omega)];exact w4 i' cs he q c hq
      ·rw[List.getElem?_set_ne (by omega)]at q7
       have Hi:q<b.b9:=by
        rw[<-hz ew (zM q7)];exact (zS hq).1
       obtain ⟨u,hu,ga⟩:=w4 i' ew q7 q c hq;refine ⟨u,?_,ga⟩;rw[yy,<-hu];rcases Nat.lt_or_gt_of_ne Nx with m9|rh
       ·have:(i'+1)*b.b9<=i*b.b9:=zR _ m9
        rw[Nat.succ_mul]at this;rw[if_pos (by omega)]
       ·have:(i+1)*b.b9<=i'*b.b9:=zR _ rh
        rw[Nat.succ_mul]at this;rw[if_neg (by omega),if_neg (by omega)])
     (m.w.setRow g v9) (nX hm hB v9) (by simp) (λ k hk=>setRow_other _ _ _ _ hk) (setRow_heap _ _ _ _ _ _ hh)
    intro K Q hK;refine AiK (w':=m.w.setRow g v9) ?_ (hK undef ⟨m.ν,_,m.w.setRow g v9⟩ rfl k1 k2 vC);have Lq:(a.eval v).cells.size=inf.size:=by rw[w6,<-hn,<-hlen];simp
    simp only[execOp,n0,cp,Instr.storeAt,storeVar,Instr.sureAddr,Sem.run_bind,Sem.run_pure,Result.andThen_ok,sizeOf,typeInfo,run_program,hi];rw[if_neg (by simpa using Lq)];simp only[Sem.run_bind,Sem.run_pure,Result.andThen_ok,vb]
   ·cases m5
theorem Zg (hm:BL B S w0 m) (hs:CF B S m ρ a.eval) {s b9 bytes:Nat} {zero:List AV} {l' c':AR} (h:BA P num o.op (.mk s b9 bytes zero l' c')=true) {kl kc:IntKind} {l c:Int} (hl:ρ l' = .int kl l) (hc:ρ c' = .int kc c) (h0:0<=l) (oc:l<=c) (hb:c*bytes<=EC) (Ib:c<=9223372036854775807) (hz:zero.length=b9) :
  CK B S w0 P o a m (.new s ⟨b9,List.replicate l.toNat zero⟩ (λ t => .row s t b9 0 l.toNat)):=by
 obtain ⟨ty,lx,cx,e,inf,z,n0,h1,h2,hu,hi,w6,qk,er,jk,m8⟩:=AfE h;have el:=HN (hl ▸ hs lx l' h1);have ec:=HN (hc ▸ hs cx c' h2);have q6:CL B S m zero z.cells.toList:=WH jk;have hzs:z.cells.size=b9:=by rw[<-hz,q6.1];simp
 refine qJ hm s b9 l.toNat c.toNat _ (madeCells z.cells (c.toNat*inf.size)) e (Nat.pos_of_ne_zero m8) (by omega) (by rw[size_madeCells,w6];exact Nat.le_refl _) (λ x hx=>by rw[(List.mem_replicate.1 hx).2,hz]) (λ i cs q7 j c1 hj => ?_) ?_
 ·rw[List.getElem?_replicate]at q7
  split at q7
  ·rename_i aw
   obtain rfl:zero=cs:=by simpa using q7
   obtain ⟨u,lz,ga⟩:=V6 q6 hj;refine ⟨u,?_,ga⟩;have dv:j<b9:=by rw[<-hz];exact (zS hj).1
   have m9:i*b9+j<c.toNat*inf.size:=by
    rw[w6];have h3:(i+1)*b9<=c.toNat*b9:=zR _ (by omega);rw[Nat.succ_mul]at h3;omega
   have Kl:(i*b9+j)%z.cells.size=j:=by rw[hzs,Nat.add_comm,Nat.add_mul_mod_self_right,Nat.mod_eq_of_lt dv]
   have Cx:z.cells[j]? = some u:=by simpa using lz
   have hjs:j<z.cells.size:=(Array.getElem?_eq_some_iff.1 Cx).1;have fu:z.cells[j]=u:=(Array.getElem?_eq_some_iff.1 Cx).2;simp [madeCells,m9,Kl,hjs,fu]
  ·cases q7
 ·have:=run_make (P:=P) m.w ty e inf z hu hi er kl kc l c h0 oc (by rw[qk,Int.mul_comm];simp only[EC]at hb;omega) Ib
  simp only[execOp,n0,el,ec,Sem.run_bind,this,Result.andThen_ok,Sem.run_pure]
theorem Vn (hm:BL B S w0 m) (hs:CF B S m ρ a.eval) {x':AR} {i:Nat} (h:BA P num o.op (.ext x' i)=true) {vs:List AV} {v:AV} (hx:ρ x' = .l6 vs) (hv:vs[i]? = some v):CK B S w0 P o a m (.val v):=by
 obtain ⟨x,n0,h1⟩:=AfA h;obtain ⟨us,cp,hl,hc⟩:=fZ (hx ▸ hs x x' h1);have m9:i<us.length:=by rw[<-hl];exact (zS hv).1
 refine EA hm (u:=us[i]) ?_ (.ca (hc i v us[i] hv (zE m9)));simp [execOp,n0,cp,Instr.extract,m9]
theorem Zf (hm:BL B S w0 m) (hs:CF B S m ρ a.eval) {x':AR} (h:BA P num o.op (.len x')=true) {n:Nat} (hx:PR (ρ x')=some n):CK B S w0 P o a m (.val (.int .i64 n)):=by
 obtain ⟨x,t,e,n0,h1,hu⟩:=AfD h;have w5:=hs x x' h1;obtain ⟨ad,cap,cp⟩ : ∃ ad cap,a.eval x = .slice ad n cap:=by
  generalize ρ x'=av at *;cases av with
  | sl l es =>
   have hr:=aT w5;simp only[PR,Option.some.injEq]at hx;subst hx;generalize a.eval x=v at *;cases hr with
   | jl=>exact ⟨_,_,rfl⟩
   | sl=>exact ⟨_,_,rfl⟩
  | row s t z off len =>
   obtain ⟨ad,cap,hv,_⟩:=WA w5;simp only[PR,Option.some.injEq]at hx;subst hx;exact ⟨ad,cap,hv⟩
  | nil =>
   simp only[PR,Option.some.injEq]at hx;subst hx;exact ⟨_,_,V9 w5⟩
  | _=>simp [PR]at hx
 refine EA hm (u := .int .i64 n) ?_ (QT _ _);simp [execOp,n0,resolve,invoke,builtin,cp,Builtin.len_,run_underlying hu,goInt]
theorem TP (hs:CF B S m ρ a.eval) : ∀ {xs:List Operand} {ys:List AR},DS xs ys=true->xs.length=ys.length /\ ∀ (j:Nat) (x:Operand) (y:AR),xs[j]? = some x->ys[j]? = some y->CV B S m (ρ y) (a.eval x)
 | [],[],_=>⟨rfl,λ j x y h=>by simp at h⟩
 | x::r,y::l,h=>by
  simp only[DS,Bool.and_eq_true]at h;obtain ⟨ih1,oi⟩:=TP hs h.2;refine ⟨by simp [ih1],λ j x' y' hx hy => ?_⟩;cases j with
  | zero=>simp at hx hy;subst hx hy;exact hs _ _ h.1
  | succ j=>exact oi j x' y' (by simpa using hx) (by simpa using hy)
 | [],_::_,h=>by simp [DS]at h
 | _::_,[],h=>by simp [DS]at h
theorem xK (mx:Bool) (hs:CF B S m ρ a.eval) (w:World) : ∀ (xs:List Operand) (ys:List AR) (v:AV) (u:Value) (r:AV),DS xs ys=true->CV B S m v u->JY mx v (ys.map ρ)=some r->(∃ k n,v = .int k n) -> ∃ k n,r = .int k n /\
  ((xs.map a.eval).foldlM (if mx then Builtin.max2 else Builtin.min2) u).run P w = .ok (.int k n) w
 | [],[],v,u,r,_,hc,hm,⟨k,n,hv⟩=>by
  simp only[List.map_nil,JY,Option.some.injEq]at hm;subst hm hv;obtain rfl:=HN hc;exact ⟨k,n,rfl,by simp⟩
 | x::xr,y::yr,v,u,r,he,hc,hm,⟨k,n,hv⟩=>by
  simp only[DS,Bool.and_eq_true]at he;simp only[List.map_cons,JY]at hm;have hx:=hs x y he.1;subst hv;obtain rfl:=HN hc;cases hy:ρ y with
  | int k' n' =>
   rw[hy]at hx hm;have hxe:=HN hx;simp only[PX]at hm;obtain ⟨k2,n2,rfl,h2⟩:=xK mx hs w xr yr _ (.int k (if mx then (if n'>n then n' else n) else (if n'<n then n' else n))) r he.2 (QT _ _) hm ⟨_,_,rfl⟩;refine ⟨k2,n2,rfl,?_⟩;simp only[List.map_cons,List.foldlM_cons,Sem.run_bind,hxe];cases mx
   ·simpa [Builtin.min2] using h2
   ·simpa [Builtin.max2] using h2
  | _=>rw[hy]at hm;simp [PX]at hm
 | [],_::_,_,_,_,he,_,_,_=>by simp [DS]at he
 | _::_,[],_,_,_,he,_,_,_=>by simp [DS]at he
theorem Zi (hm:BL B S w0 m) (hs:CF B S m ρ a.eval) {mx:Bool} {o8:List AR} (h:BA P num o.op (.mm mx o8)=true) {v r:AV} {l:List AV} (hx:o8.map ρ=v::l) (hv:JY mx v l=some r) (hi : ∃ k n,v = .int k n):CK B S w0 P o a m (.val r):=by
 obtain ⟨xs,ts,n0,he⟩:=uE h;cases o8 with
 | nil=>simp at hx
 | cons y yr =>
  simp only[List.map_cons,List.cons.injEq]at hx;obtain ⟨rfl,rfl⟩:=hx;obtain ⟨xl⟩:=xs;cases xl with
  | nil=>simp [DS]at he
  | cons x xr =>
   simp only[DS,Bool.and_eq_true]at he;obtain ⟨k,n,rfl,u4⟩:=xK (P:=P) mx hs m.w xr yr (ρ y) (a.eval x) r he.2 (hs x y he.1) hv hi;refine EA hm (u := .int k n) ?_ (QT _ _);cases mx
   ·simp only[execOp,n0,resolve,invoke,builtin,Builtin.min_,Sem.run_bind,Sem.run_pure,Result.andThen_ok]at u4 ⊢
    simp at u4 ⊢;rw[u4];rfl
   ·simp only[execOp,n0,resolve,invoke,builtin,Builtin.max_,Sem.run_bind,Sem.run_pure,Result.andThen_ok]at u4 ⊢
    simp at u4 ⊢;rw[u4];rfl
end
end Go.e8

namespace Go.e8
open Go.RowKit
section
variable {B:Nat} {S:Nat->Prop} {w0:World} {m:M}
variable {P:Program} {num:Nat->Nat} {o:Oper} {a:Act} {ρ:AR->AV}
def GR (ρ:AR->AV) (d:Nat):Option AR->Option Int
 | none=>some d
 | some y=>match ρ y with | .int _ n=>some n|_=>none
theorem dA (ty e:TypeId) (inf:TypeInfo) (hu:P.underlying ty=some (.slice e)) (hi:P.info? e=some inf) (hs:CF B S m ρ a.eval) {lo q7:Option Operand} {om En:Option AR} (od:OO lo om=true) (Hc:OO q7 En=true)
  (ad:Option Addr) (len cap:Nat) (l h:Int) (hl:GR ρ 0 om=some l) (hh:GR ρ len En=some h) (h0:0<=l) (hlh:l<=h) (hhl:h<=len) (oc:len<=cap) (w:World) :
  (Instr.sliceAt ty (.slice ad len cap) (lo.map a.eval) (q7.map a.eval) none).run P w = .ok (.slice (if cap=l.toNat then ad else ad.map (·.add (l.toNat*inf.size))) (h.toNat-l.toNat) (cap-l.toNat)) w:=by
 have vz : ∀ {x:Option Operand} {y:Option AR} {d:Nat} {n:Int},OO x y=true->GR ρ d y=some n->(x=none/\y=none/\n=d) \/ ∃ x' k,x=some x'/\a.eval x' = .int k n:=by
  intro x y d n np hb;cases x with
  | none=>cases y with
   | none=>simp [GR]at hb;exact .inl ⟨rfl,rfl,hb.symm⟩
   | some y=>simp [OO]at np
  | some x=>cases y with
   | none=>simp [OO]at np
   | some y =>
    simp only[OO]at np;simp only[GR]at hb;cases hy:ρ y with
    | int k q =>
     rw[hy]at hb;simp only[Option.some.injEq]at hb;subst hb;exact .inr ⟨x,k,rfl,HN (hy ▸ hs x y np)⟩
    | _=>rw[hy]at hb;cases hb
 have yz:h<=(cap:Int):=by omega
 unfold Instr.sliceAt Instr.slice Instr.sliceBounds;rcases vz od hl with ⟨rfl,_,rfl⟩|⟨x1,k1,rfl,e1⟩<;>rcases vz Hc hh with ⟨rfl,_,rfl⟩|⟨x2,k2,rfl,e2⟩
 ·simp [run_underlying hu,sizeOf,typeInfo,hi]
 ·have ix:=run_sliceBound (P:=P) w k2 h cap .sliceAcap (by omega) yz
  simp [run_underlying hu,sizeOf,typeInfo,hi,e2,ix]
 ·have u7:=run_sliceBound (P:=P) w k1 l len .sliceB h0 (by omega)
  simp [run_underlying hu,sizeOf,typeInfo,hi,e1,u7]
 ·have ix:=run_sliceBound (P:=P) w k2 h cap .sliceAcap (by omega) yz
  have u7:=run_sliceBound (P:=P) w k1 l h.toNat .sliceB h0 (by omega);simp [run_underlying hu,sizeOf,typeInfo,hi,e1,e2,ix,u7]
theorem Zm (hm:BL B S w0 m) (hs:CF B S m ρ a.eval) {b9:Nat} {x':AR} {om q7:Option AR} (h:BA P num o.op (.gp b9 x' om q7)=true) (hx:ρ x' = .nil) (hl:GR ρ 0 om=some 0) (hh:GR ρ 0 q7=some 0):CK B S w0 P o a m (.val .nil):=by
 obtain ⟨ty,x,lo,xo,e,inf,n0,h1,h2,h3,hu,hi,w6,m8⟩:=jG h;have cp:=V9 (hx ▸ hs x x' h1);have u4:=dA ty e inf hu hi hs h2 h3 none 0 0 0 0 hl hh (by omega) (by omega) (by omega) (by omega) m.w;refine EA hm (u := .slice none 0 0) ?_ (.ca (.one .nil));simp only[execOp,n0,cp,Sem.run_bind,Option.map_none,u4];rfl
theorem Zn (hm:BL B S w0 m) (hs:CF B S m ρ a.eval) {b9:Nat} {x':AR} {om q7:Option AR} (h:BA P num o.op (.gp b9 x' om q7)=true) {s t z off len:Nat} {l u:Int} (hx:ρ x' = .row s t z off len) (hl:GR ρ 0 om=some l) (hh:GR ρ len q7=some u) (h0:0<=l) (He:l<=u) (fu:u<=len) (hz:z=b9) :
  CK B S w0 P o a m (.val (.row s t z (off+l.toNat) (u.toNat-l.toNat))):=by
 obtain ⟨ty,x,lo,xo,e,inf,n0,h1,h2,h3,hu,hi,w6,m8⟩:=jG h;obtain ⟨ad,cap,cp,ht,er,oc,ha,hb⟩:=WA (hx ▸ hs x x' h1);have u4:=dA ty e inf hu hi hs h2 h3 ad len cap l u hl hh h0 He fu oc m.w;refine EA hm ?_ (.ca (.one (.row s t z (off+l.toNat) (u.toNat-l.toNat) (if cap=l.toNat then ad else ad.map (·.add (l.toNat*inf.size))) (cap-l.toNat) ht er (by omega) (λ hp => ?_) λ b m7 => ?_)))
 ·simp only[execOp,n0,cp,Sem.run_bind,Option.map_none,u4]
  rfl
 ·rw[if_neg (by omega)]
  obtain ⟨Bw,rfl⟩:=Option.isSome_iff_exists.1 (ha (by omega));rfl
 ·obtain ⟨ql,fi⟩:=hb b m7
  refine ⟨ql,?_⟩;rcases fi with ⟨jv,fp⟩|⟨g,arr,e',hg,lg,Hb,hle⟩
  ·exact .inl ⟨by omega,by omega⟩
  ·by_cases hc:cap=l.toNat
   ·exact .inl ⟨by omega,by omega⟩
   ·refine .inr ⟨g,arr,e',hg,?_,Hb,?_⟩
    ·rw[if_neg hc,lg,w6,hz]
     simp only[Option.map_some,GQ,Nat.add_mul]
    ·rw[show off+l.toNat+(cap-l.toNat)=off+cap by omega]
     exact hle
theorem Zo (hm:BL B S w0 m) (hs:CF B S m ρ a.eval) {b9:Nat} {x':AR} {om q7:Option AR} (h:BA P num o.op (.gp b9 x' om q7)=true) {lt:Bool} {es:List (List AV)} {l u:Int} (hx:ρ x' = .sl lt es) (hl:GR ρ 0 om=some l) (hh:GR ρ es.length q7=some u) (h0:0<=l) (He:l<=u) (fu:u<=es.length) (hz : ∀ e∈es,e.length=b9) :
  CK B S w0 P o a m (.val (.sl lt ((es.take u.toNat).drop l.toNat))):=by
 obtain ⟨ty,x,lo,xo,e,inf,n0,h1,h2,h3,hu,hi,w6,m8⟩:=jG h;have mo:=aT (hx ▸ hs x x' h1);generalize cp:a.eval x=v at mo;cases mo with
 | jl _ ad cap =>
  have u4:=dA ty e inf hu hi hs h2 h3 ad 0 cap l u hl hh h0 He (by simpa using fu) (by omega) m.w;simp only[List.length_nil]at fu;rw[show (([]:List (List AV)).take u.toNat).drop l.toNat=[] by simp];refine EA hm (u := .slice (if cap=l.toNat then ad else ad.map (·.add (l.toNat*inf.size))) 0 (cap-l.toNat)) ?_ (.ca (.one (.rd (.jl lt _ _))));simp only[execOp,n0,cp,Sem.run_bind,Option.map_none,u4];rw[show u.toNat-l.toNat=0 by omega];rfl
 | sl _ _ b ob w3 cap uu uq hp hR br jk hc hr =>
  have u4:=dA ty e inf hu hi hs h2 h3 (some ⟨b,ob,none⟩) es.length cap l u hl hh h0 He fu br m.w;have Gf:w3=b9:=by
   cases es with
   | nil=>exact absurd rfl uq
   | cons q r=>rw[<-jk q (by simp),hz q (by simp)]
  subst Gf;by_cases er:u.toNat-l.toNat=0
  ·have:(es.take u.toNat).drop l.toNat=[]:=by
    apply List.eq_nil_of_length_eq_zero;simp;omega
   rw[this];refine EA hm (u := .slice (if cap=l.toNat then some ⟨b,ob,none⟩ else (some (⟨b,ob,none⟩:Addr)).map (·.add (l.toNat*inf.size))) 0 (cap-l.toNat)) ?_ (.ca (.one (.rd (Rd.jl lt _ _))));simp only[execOp,n0,cp,Sem.run_bind,Option.map_none,u4];rw[er];rfl
  ·have hlen:((es.take u.toNat).drop l.toNat).length=u.toNat-l.toNat:=by simp;omega
   have o7 : ∀ i,i<u.toNat-l.toNat->((es.take u.toNat).drop l.toNat)[i]? = es[l.toNat+i]? := λ i q7=>by
    rw[List.getElem?_drop,List.getElem?_take,if_pos (by omega)]
   refine EA hm (u := .slice (some ⟨b,ob+l.toNat*w3,none⟩) ((es.take u.toNat).drop l.toNat).length (cap-l.toNat)) ?_ (.ca (.one (.rd (.sl lt _ b (ob+l.toNat*w3) w3 (cap-l.toNat) (λ i j=>uu (l.toNat+i) j) (λ e=>er (by rw[<-hlen,e];rfl)) hp hR (by rw[hlen];omega) (λ q hq=>jk q (List.mem_of_mem_take (List.mem_of_mem_drop hq))) (λ i q q7 j c hj => ?_) (λ i q q7 j c hj => ?_)))))
   ·simp only[execOp,n0,cp,Sem.run_bind,Option.map_none,u4]
    rw[if_neg (by omega),hlen,w6];simp only[Option.map_some,GQ];rfl
   ·have aw:i<u.toNat-l.toNat:=by rw[<-hlen];exact (zS q7).1
    rw[o7 i aw]at q7;rw[show ob+l.toNat*w3+(i*w3+j)=ob+((l.toNat+i)*w3+j) by rw[Nat.add_mul];omega];exact hc _ q q7 j c hj
   ·have aw:i<u.toNat-l.toNat:=by rw[<-hlen];exact (zS q7).1
    rw[o7 i aw]at q7;exact hr _ q q7 j c hj
structure XR (B:Nat) (S:Nat->Prop) (m:M) (b9:Nat) (ys:List (List AV)) (ad:Option Addr) (news:List Value):Prop where
 len:news.length=ys.length*b9
 cells : ∀ b,ad=some b -> ∀ j v,news[j]? = some v->m.w.cell? (b.add j)=some v
 some_:ys≠[]->ad.isSome=true
 rel : ∀ i cs,ys[i]? = some cs -> ∀ j c,cs[j]? = some c -> ∃ u,news[i*b9+j]? = some u/\CC B S m c u
theorem We (b9 i j:Nat) (h:j<b9):(i*b9+j)/b9=i/\(i*b9+j)%b9=j:=by
 constructor
 ·rw[Nat.add_comm,Nat.add_mul_div_right _ _ (by omega),Nat.div_eq_of_lt h,Nat.zero_add]
 ·rw[Nat.add_comm,Nat.add_mul_mod_self_right,Nat.mod_eq_of_lt h]
theorem gP (hm:BL B S w0 m) {av:AV} {v:Value} (hc:CV B S m av v) {ys:List (List AV)} (he:EB m.own av=some ys) {b9:Nat} (hz : ∀ e∈ys,e.length=b9) (h0:0<b9) :
  ∃ ad cap news,v = .slice ad ys.length cap/\XR B S m b9 ys ad news:=by
 cases av with
 | sl l es =>
  simp only[EB,Option.some.injEq]at he;subst he;cases aT hc with
  | jl _ ad cap=>exact ⟨ad,cap,[],rfl,by simp,λ b _ j v hv=>by simp at hv,λ h=>absurd rfl h,λ i cs hi=>by simp at hi⟩
  | sl _ _ b ob w3 cap uu uq hp hR br jk q6 hr =>
   have Gf:w3=b9:=by
    cases es with
    | nil=>exact absurd rfl uq
    | cons q r=>rw[<-jk q (by simp),hz q (by simp)]
   subst Gf;refine ⟨some ⟨b,ob,none⟩,cap,(List.range (es.length*w3)).map (λ k=>uu (k/w3) (k%w3)),rfl,by simp,λ b' m7 j v hv => ?_,λ_=>rfl,λ i cs hi j c hj => ?_⟩
   ·obtain rfl:(⟨b,ob,none⟩:Addr)=b':=by simpa using m7
    rw[List.getElem?_map]at hv;have dv:j<es.length*w3:=by
     rcases Nat.lt_or_ge j (es.length*w3) with h|h
     ·exact h
     ·rw[List.getElem?_eq_none (by simpa using h)]at hv;cases hv
    rw[List.getElem?_range dv]at hv;simp only[Option.map_some,Option.some.injEq]at hv;subst hv;have hd:j/w3<es.length:=Nat.div_lt_of_lt_mul (by rw[Nat.mul_comm];exact dv);have Kk:j%w3<w3:=Nat.mod_lt _ h0;have ff:(es[j/w3]).length=w3:=jk _ (List.getElem_mem hd);have:=q6 (j/w3) _ (zE hd) (j%w3) _ (zE (by rw[ff];exact Kk))
    rw[GQ,<-this];congr 2;have:=Nat.div_add_mod j w3
    rw[Nat.mul_comm]at this;omega
   ·have dv:j<w3:=by rw[<-jk cs (zM hi)];exact (zS hj).1
    have aw:i<es.length:=(zS hi).1;have m9:i*w3+j<es.length*w3:=by
     have:(i+1)*w3<=es.length*w3:=zR _ aw
     rw[Nat.succ_mul]at this;omega
    obtain ⟨e1,e2⟩:=We w3 i j dv;refine ⟨uu i j,?_,.rd (hr i cs hi j c hj)⟩;rw[List.getElem?_map,List.getElem?_range m9];simp [e1,e2]
 | nil =>
  simp only[EB,Option.some.injEq]at he;subst he;exact ⟨none,0,[],V9 hc,by simp,λ b hb=>(by cases hb),λ h=>absurd rfl h,λ i cs hi=>by simp at hi⟩
 | row s t z off len =>
  obtain ⟨ad,cap,hv,ht,er,oc,ha,hb⟩:=WA hc;simp only[EB]at he;cases o7:m.own.get s t with
  | none=>simp [o7]at he
  | some b =>
   simp only[o7]at he;split at he
   ·rename_i hle
    obtain ⟨hle,ql⟩:=hle;obtain rfl:=Option.some.inj he;have Oz:((b.es.drop off).take len).length=len:=by simp;omega
    obtain ⟨_,fi⟩:=hb b o7;by_cases jv:len=0
    ·subst jv
     refine ⟨ad,cap,[],by simpa using hv,by simp,λ b _ j v hv=>by simp at hv,λ h=>absurd (by simp) h,λ i cs hi=>by simp at hi⟩
    ·rcases fi with ⟨h1,_⟩|⟨g,arr,e',hg,lg,Hb,AnH⟩
     ·exact absurd h1 jv
     ·obtain ⟨jk,dm⟩:=hm.e7 s t b o7
      rw[hg]at dm;obtain ⟨hB,sz,e2,zi,w4⟩:=dm;rw[Hb]at zi;obtain ⟨rfl,rfl⟩:arr=sz/\e'=e2:=by simpa using zi
      have hez:b9=z:=by
       have m9:off<b.es.length:=by omega
       have h1:b.es[off]∈(b.es.drop off).take len:=by
        have:((b.es.drop off).take len)[0]? = some b.es[off]:=by
         rw[List.getElem?_take,if_pos (by omega),List.getElem?_drop];simp [m9]
        exact zM this
       rw[<-hz _ h1,jk _ (List.getElem_mem m9),ql]
      subst hez;have w6:off*b9+len*b9<=arr.size:=by
       have:(off+len)*b9<=(off+cap)*b9:=zR _ (by omega)
       rw[Nat.add_mul]at this;omega
      refine ⟨ad,cap,(arr.toList.drop (off*b9)).take (len*b9),by rw[Oz];exact hv,by rw[Oz];simp;omega,λ b' m7 j v og => ?_,λ_=>by rw[lg];rfl,λ i cs hi j c hj => ?_⟩
      ·rw[lg]at m7
       obtain rfl:(⟨g,off*b9,none⟩:Addr)=b':=by simpa using m7
       rw[List.getElem?_take]at og;split at og
       ·rw[List.getElem?_drop]at og
        rw[GQ,aK Hb];simpa using og
       ·cases og
      ·rw[List.getElem?_take]at hi
       split at hi
       ·rename_i aw
        rw[List.getElem?_drop]at hi;have dv:j<b9:=by rw[<-ql,<-jk cs (zM hi)];exact (zS hj).1
        obtain ⟨u,hu,ga⟩:=w4 (off+i) cs hi j c hj;refine ⟨u,?_,ga⟩;have m9:i*b9+j<len*b9:=by
         have:(i+1)*b9<=len*b9:=zR _ aw
         rw[Nat.succ_mul]at this;omega
        rw[List.getElem?_take,if_pos m9,List.getElem?_drop,<-hu,ql];simp only[Array.getElem?_toList];congr 1;rw[Nat.add_mul];omega
       ·cases hi
   ·cases he
 | da v' =>
  cases v' with
  | bool b =>
   simp only[EB,Option.some.injEq]at he;subst he;obtain ⟨ad,cap,hv,_⟩:=pR hc;exact ⟨ad,cap,[],hv,by simp,λ b' m7 j v og=>by simp at og,λ h=>absurd rfl h,λ i cs hi=>by simp at hi⟩
  | _=>simp [EB]at he
 | _=>simp [EB]at he
theorem XR.one {b9:Nat} {ys:List (List AV)} {ad:Option Addr} {news:List Value} (h:XR B S m b9 ys ad news) (h0:0<b9) (hz : ∀ e∈ys,e.length=b9) : ∀ u∈news,u.oneCell'=true:=by
 intro u hu;obtain ⟨k,hk,rfl⟩:=List.getElem_of_mem hu;rw[h.len]at hk;have hd:k/b9<ys.length:=Nat.div_lt_of_lt_mul (by rw[Nat.mul_comm];exact hk);have Kk:k%b9<b9:=Nat.mod_lt _ h0;have ff:(ys[k/b9]).length=b9:=hz _ (List.getElem_mem hd);obtain ⟨u',lz,hc⟩:=h.rel (k/b9) _ (zE hd) (k%b9) _ (zE (by rw[ff];exact Kk));have il:k/b9*b9+k%b9=k:=by
  have:=Nat.div_add_mod k b9
  rw[Nat.mul_comm]at this;exact this
 rw[il]at lz;obtain rfl:news[k]=u':=by
  have:=(zS lz).2
  exact this
 exact hc.one
theorem XR.src {b9:Nat} {ys:List (List AV)} {ad:Option Addr} {news:List Value} (h:XR B S m b9 ys ad news) (h0:0<b9) (hz : ∀ e∈ys,e.length=b9) {t e:TypeId} (hu:P.underlying t=some (.slice e)) (cap:Nat):Src P b9 t (.slice ad ys.length cap) ys.length news m.w:=by
 cases ad with
 | none =>
  have ye:ys=[]:=by
   cases ys with
   | nil=>rfl
   | cons y r=>exact absurd (h.some_ (by simp)) (by simp)
  subst ye;have hn:news=[]:=List.eq_nil_of_length_eq_zero (by simpa using h.len);subst hn;exact Src.ofNil m.w hu cap
 | some b=>exact Src.ofSlice m.w hu b ys.length cap news h.len (h.cells b rfl) (h.one h0 hz)
theorem Agy (arr:Array Value) (off:Nat) (news:List Value) (h:off+news.length<=arr.size) (p:Nat):(arr.toList.take off++news++arr.toList.drop (off+news.length)).toArray[p]? = if p<off then arr[p]? else if p<off+news.length then news[p-off]? else arr[p]? := by
 simp only[List.getElem?_toArray];rw[lN _ _ _ (by simpa using h)];simp only[Array.getElem?_toList]
theorem Ahy (t tx e ex:TypeId) (i:TypeInfo) (ht:P.underlying t=some (.slice e)) (hx:P.underlying tx=some (.slice ex)) (hi:P.info? e=some i) (g off qb se:Nat) (x:Value) (n:Nat) (news:List Value) (w:World) (hs:Src P i.size tx x n news w) (nk:qb+n<=se) (arr:Array Value) (e':TypeId)
  (hh:w.heap[g]? = some (.cells arr e' (0,0))) (w6:off+qb*i.size+news.length<=arr.size) (ty:TypeId) :
  (Builtin.append_ #[t,tx] ty #[.slice (some ⟨g,off,none⟩) qb se,x]).run P w = .ok (.slice (some ⟨g,off,none⟩) (qb+n) se) (w.setRow g (arr.toList.take (off+qb*i.size)++news++arr.toList.drop (off+qb*i.size+news.length)).toArray):=by
 have m5:=run_storeCells_at (P:=P) g (off+qb*i.size) e' news 0 arr w hh (by omega) hs.one;simp only[Nat.add_zero]at m5;simp [Builtin.append_,run_underlying ht,run_underlying hx,sizeOf,typeInfo,hi,hs.len,nk,hs.cells,GQ,m5]
theorem xH (t tx e ex:TypeId) (i:TypeInfo) (ht:P.underlying t=some (.slice e)) (hx:P.underlying tx=some (.slice ex)) (hi:P.info? e=some i) (ad:Option Addr) (se:Nat) (x:Value) (w:World) (hs:Src P i.size tx x 0 [] w) (ty:TypeId) :
  (Builtin.append_ #[t,tx] ty #[.slice ad 0 se,x]).run P w = .ok (.slice ad 0 se) w:=by
 have hc:=hs.cells;cases ad<;>simp [Builtin.append_,run_underlying ht,run_underlying hx,sizeOf,typeInfo,hi,hs.len,hc,storeCells]
theorem ZH {x y:Operand} {t tx:TypeId} (n0:o.op = .call ⟨.builtin .append,#[x,y],#[t,tx]⟩) {u:Value} {w w':World} (h:(Builtin.append_ #[t,tx] o.type #[a.eval x,a.eval y]).run P w = .ok u w'):(execOp a.eval o).run P w = .ok (.value u) w':=by
 simp [execOp,n0,resolve,invoke,builtin,h]
theorem AeT (dz news:List Value) (z:Array Value) (k p:Nat) (h:p<dz.length+news.length):((dz++news).toArray++Builtin.zeroCells z k)[p]? = (dz++news)[p]? := by
 rw[Array.getElem?_append_left (by simpa using h)];simp
theorem Ahq {b9 len:Nat} {xs ys:List (List AV)} {dz news:List Value} (yb:xs.length=len) (Fh:dz.length=len*b9) (hzx : ∀ e∈xs,e.length=b9)
  (hx : ∀ i cs,xs[i]? = some cs -> ∀ j c,cs[j]? = some c -> ∃ u,dz[i*b9+j]? = some u/\CC B S m c u)
  (hy : ∀ i cs,ys[i]? = some cs -> ∀ j c,cs[j]? = some c -> ∃ u,news[i*b9+j]? = some u/\CC B S m c u) :
  ∀ i cs,(xs++ys)[i]? = some cs -> ∀ j c,cs[j]? = some c -> ∃ u,(dz++news)[i*b9+j]? = some u/\CC B S m c u:=by
 intro i cs hi j c hj;by_cases aw:i<len
 ·rw[List.getElem?_append_left (by omega)]at hi
  obtain ⟨u,hu,hc⟩:=hx i cs hi j c hj;exact ⟨u,by rw[List.getElem?_append_left (by have:=(zS hu).1;omega)];exact hu,hc⟩
 ·rw[List.getElem?_append_right (by omega),yb]at hi
  obtain ⟨u,hu,hc⟩:=hy (i-len) cs hi j c hj;refine ⟨u,?_,hc⟩;have e1:i*b9=len*b9+(i-len)*b9:=by rw[<-Nat.add_mul];congr 1;omega
  rw[List.getElem?_append_right (by omega),<-hu];congr 1;omega
theorem vI {s z n cap:Nat} {es:List (List AV)} {w':World} {g t:Nat} {arr:Array Value} {e:TypeId} (hz:0<z) (hn:n<=cap) (hg:w'.heap[g]? = some (.cells arr e (0,0))) (hc:cap*z<=arr.size) :
  CV B S ⟨l7 m s (some g),m.own.put s (((m.own s).q8 t none).new ⟨z,es⟩),w'⟩ (.row s (m.own.g8 s) z 0 n) (.slice (some ⟨g,0,none⟩) n cap):=by
 refine .ca (.one (.row s (m.own.g8 s) z 0 n _ cap ?_ hz hn (λ_=>rfl) λ b' m7=>⟨?_,.inr ⟨g,arr,e,?_,by simp,hg,by simpa using hc⟩⟩))
 ·show _<AH.g8 _ s
  rw[aP];simp
 ·change AH.get _ s _=some b' at m7
  rw[UJ,if_pos ⟨rfl,rfl⟩]at m7;obtain rfl:(⟨z,es⟩:DM)=b':=by simpa using m7
  rfl
 ·simp [l7]
theorem Tw (hm:BL B S w0 m) (ob:Obj):Below B w0 (m.w.drew.alloc ob):=hm.below.drew.alloc (by simpa using hm.size) ob
theorem Wl (hm:BL B S w0 m) (hs:CF B S m ρ a.eval) {s b9 bytes:Nat} {x' y':AR} (h:BA P num o.op (.app s b9 bytes x' y')=true) {ys:List (List AV)} (hy:EB m.own (ρ y')=some ys) (hz : ∀ e∈ys,e.length=b9) {s' t len:Nat} {b:DM} (hx:ρ x' = .row s' t b9 0 len) (o7:m.own.get s' t=some b)
  (ql:b.b9=b9) (hle:len<=b.es.length) (nk:(len+ys.length)*bytes<=EC) (Ib:len+ys.length<=9223372036854775807) :
  CK B S w0 P o a m (.ea (.row s' (m.own.g8 s') b9 0 (len+ys.length)) (m.own.put s' (((m.own s').q8 t none).new ⟨b9,b.es.take len++ys⟩))):=by
 obtain ⟨x,y,ty,e,i,z,tx,ex,n0,h1,h2,hu,hi,w6,qk,er,jk,m8,Cy⟩:=uB h;have h0:0<b9:=Nat.pos_of_ne_zero m8;obtain ⟨ad,cap,cp,ht,_,oc,ha,hb⟩:=WA (hx ▸ hs x x' h1);obtain ⟨Ad,ke,news,wi,ff⟩:=gP hm (hs y y' h2) hy hz h0;have ru:Src P i.size tx (.slice Ad ys.length ke) ys.length news m.w:=by rw[w6];exact ff.src h0 hz Cy ke
 obtain ⟨fb,dm⟩:=hm.e7 s' t b o7;obtain ⟨_,fi⟩:=hb b o7;have ck:(b.es.take len).length=len:=by simp;omega
 have Aa : ∀ q∈b.es.take len++ys,q.length=b9:=λ q hq=>by
  rcases List.mem_append.1 hq with hq|hq
  ·rw[<-ql];exact fb q (List.mem_of_mem_take hq)
  ·exact hz q hq
 intro K Q hK;by_cases xn:len+ys.length<=cap
 ·rcases fi with ⟨jv,fp⟩|⟨g,arr,e',hg,lg,hh,Ej⟩
  ·have ye:ys=[]:=List.eq_nil_of_length_eq_zero (by omega)
   subst ye;subst jv fp;have wg:news=[]:=List.eq_nil_of_length_eq_zero (by simpa using ff.len);subst wg;have u4:=xH ty tx e ex i hu Cy hi ad 0 (.slice Ad 0 ke) m.w (by simpa using ru) o.type;obtain ⟨k1,k2⟩:=jZ hm s' t b ⟨b9,b.es.take 0++[]⟩ o7 none m.w hm.below (Nat.le_refl _) (λ_ _ _=>rfl) (by simp) (by simp) (by simp);refine QA (ZH n0 (by rw[cp,wi];simpa using u4)) (hK _ ⟨l7 m s' none,m.own.put s' (((m.own s').q8 t none).new ⟨b9,b.es.take 0++[]⟩),m.w⟩ rfl k1 k2 (.ca (.one (.row s' (m.own.g8 s') b9 0 0 ad 0 ?_ h0 (Nat.le_refl _) (λ h=>by omega) λ b' m7=>⟨?_,.inl ⟨rfl,rfl⟩⟩))))
   ·show _<AH.g8 _ s'
    rw[aP];simp
   ·change AH.get _ s' _=some b' at m7
    rw[UJ,if_pos ⟨rfl,rfl⟩]at m7;obtain rfl:(⟨b9,b.es.take 0++[]⟩:DM)=b':=by simpa using m7
    rfl
  ·have An:ad=some ⟨g,0,none⟩:=by simpa using lg
   rw[hg]at dm;obtain ⟨hB,sz,e2,zi,w4⟩:=dm;rw[hh]at zi;obtain ⟨rfl,rfl⟩:arr=sz/\e'=e2:=by simpa using zi
   have Cq:news.length=ys.length*b9:=ff.len;have hbound:len*b9+news.length<=arr.size:=by
    have:(len+ys.length)*b9<=(0+cap)*b9:=zR _ (by omega)
    rw[Nat.add_mul]at this;omega
   have u4:=Ahy ty tx e ex i hu Cy hi g 0 len cap (.slice Ad ys.length ke) ys.length news m.w ru xn arr e' hh (by rw[w6];omega) o.type;rw[w6,Nat.zero_add]at u4;generalize na:(arr.toList.take (len*b9)++news++arr.toList.drop (len*b9+news.length)).toArray=v9 at u4;have fh : ∀ p,v9[p]? = if p<len*b9 then arr[p]? else if p<len*b9+news.length then news[p-len*b9]? else arr[p]? := λ p=>by rw[<-na];exact Agy arr (len*b9) news hbound p
   have pf:v9.size=arr.size:=by rw[<-na];simp;omega
   obtain ⟨k1,k2⟩:=jZ hm s' t b ⟨b9,b.es.take len++ys⟩ o7 (some g) (m.w.setRow g v9) (nX hm hB v9) (by simp) (λ k _ uq=>setRow_other _ _ _ _ (λ e=>uq (e ▸ hg))) Aa (by simp) (λ g' kn=>by
    obtain rfl:g=g':=by simpa using kn
    refine ⟨hB,.inr hg,v9,e',setRow_heap _ _ _ _ _ _ hh,λ i' cs q7 j c hj => ?_⟩;show ∃ u,v9[i'*b9+j]? = some u/\_;by_cases aw:i'<len
    ·rw[List.getElem?_append_left (by omega),List.getElem?_take,if_pos aw]at q7
     have dv:j<b9:=by rw[<-ql,<-fb cs (zM q7)];exact (zS hj).1
     obtain ⟨u,lz,ga⟩:=w4 i' cs q7 j c hj;refine ⟨u,?_,ga⟩;have:(i'+1)*b9<=len*b9:=zR _ aw
     rw[Nat.succ_mul]at this;rw[fh,if_pos (by omega),<-lz,ql]
    ·rw[List.getElem?_append_right (by omega),ck]at q7
     obtain ⟨u,lz,ga⟩:=ff.rel (i'-len) cs q7 j c hj;refine ⟨u,?_,ga⟩;have fu:=(zS lz).1;have e1:i'*b9=len*b9+(i'-len)*b9:=by rw[<-Nat.add_mul];congr 1;omega
     rw[fh,if_neg (by omega),if_pos (by omega),<-lz];congr 1;omega)
   exact QA (ZH n0 (by rw[cp,wi,An];exact u4)) (hK _ ⟨l7 m s' (some g),m.own.put s' (((m.own s').q8 t none).new ⟨b9,b.es.take len++ys⟩),m.w.setRow g v9⟩ rfl k1 k2 (vI h0 xn (setRow_heap _ _ _ _ _ _ hh) (by rw[pf];simpa using Ej)))
 ·have zh:cap<len+ys.length:=by omega
  obtain ⟨dz,Fh,hold,La⟩ : ∃ dz:List Value,dz.length=len*b9/\(Builtin.firstCells i.size len (.slice ad len cap)).run P m.w.drew = .ok dz.toArray m.w.drew/\(∀ i' cs,(b.es.take len)[i']? = some cs -> ∀ j c,cs[j]? = some c -> ∃ u,dz[i'*b9+j]? = some u/\CC B S m c u):=by
   rcases fi with ⟨jv,fp⟩|⟨g,arr,e',hg,lg,hh,Ej⟩
   ·subst jv
    refine ⟨[],by simp,?_,λ i' cs q7=>by simp at q7⟩;cases ad with
    | none=>exact run_firstCells_none m.w.drew i.size 0 0 cap
    | some Bw=>exact run_firstCells_some m.w.drew i.size 0 Bw 0 cap [] (by simp) (λ j v hv=>by simp at hv)
   ·have An:ad=some ⟨g,0,none⟩:=by simpa using lg
    rw[hg]at dm;obtain ⟨hB,sz,e2,zi,w4⟩:=dm;rw[hh]at zi;obtain ⟨rfl,rfl⟩:arr=sz/\e'=e2:=by simpa using zi
    have q6:len*b9<=arr.size:=by
     have:len*b9<=(0+cap)*b9:=zR _ (by omega)
     omega
    refine ⟨arr.toList.take (len*b9),by simp;omega,?_,λ i' cs q7 j c hj => ?_⟩
    ·rw[An]
     refine run_firstCells_some m.w.drew i.size len ⟨g,0,none⟩ len cap _ (by rw[w6];simp;omega) (λ j v hv => ?_);rw[List.getElem?_take]at hv;split at hv
     ·rw[GQ,aK (w:=m.w.drew) (show m.w.heap[g]? = _ from hh)]
      simpa using hv
     ·cases hv
    ·rw[List.getElem?_take]at q7
     split at q7
     ·rename_i aw
      have dv:j<b9:=by rw[<-ql,<-fb cs (zM q7)];exact (zS hj).1
      obtain ⟨u,lz,ga⟩:=w4 i' cs q7 j c hj;refine ⟨u,?_,ga⟩;have:(i'+1)*b9<=len*b9:=zR _ aw
      rw[Nat.succ_mul]at this;rw[List.getElem?_take,if_pos (by omega),<-lz,ql];simp
     ·cases q7
  have u4:=run_append_grow_src (P:=P) m.w ty tx o.type e i z hu hi er ad len cap dz hold (.slice Ad ys.length ke) ys.length news ru zh (by omega) (growslice_fits zh (by rw[qk];exact nk));have Cq:news.length=ys.length*b9:=ff.len;have br:len+ys.length<=grownCap m.w (len+ys.length) cap e:=grownCap_ge _ _ _ _;generalize Ha:grownCap m.w (len+ys.length) cap e=gc at u4 br;have iz:=Tw hm (.cells ((dz++news).toArray++Builtin.zeroCells z.cells (gc-(len+ys.length))) e);have ln:(m.w.drew.alloc (.cells ((dz++news).toArray++Builtin.zeroCells z.cells (gc-(len+ys.length))) e)).heap[m.w.heap.size]? = some (.cells ((dz++news).toArray++Builtin.zeroCells z.cells (gc-(len+ys.length))) e (0,0)):=heap_alloc_new m.w.drew _;obtain ⟨k1,k2⟩:=jZ hm s' t b ⟨b9,b.es.take len++ys⟩ o7 (some m.w.heap.size) _ iz (by simp) (λ k hk _=>Below.heap_alloc m.w.drew _ k hk) Aa (by simp) (λ g' kn=>by
   obtain rfl:m.w.heap.size=g':=by simpa using kn
   refine ⟨hm.size,.inl (Nat.le_refl _),_,e,ln,λ i' cs q7 j c hj => ?_⟩;obtain ⟨u,lz,ga⟩:=Ahq ck Fh (λ q hq=>by rw[<-ql];exact fb q (List.mem_of_mem_take hq)) La ff.rel i' cs q7 j c hj;refine ⟨u,?_,ga⟩;rw[AeT _ _ _ _ _ (by have:=(zS lz).1;simpa using this)];exact lz)
  refine QA (ZH n0 (by rw[cp,wi];exact u4)) (hK _ ⟨l7 m s' (some m.w.heap.size),m.own.put s' (((m.own s').q8 t none).new ⟨b9,b.es.take len++ys⟩),_⟩ rfl k1 k2 (vI h0 br ln ?_));have Ge:(Builtin.zeroCells z.cells (gc-(len+ys.length))).size=(gc-(len+ys.length))*b9:=by simp [Builtin.zeroCells,jk]
  rw[Array.size_append,Ge];simp only[List.size_toArray,List.length_append,Fh,Cq];rw[<-Nat.add_mul,<-Nat.add_mul];exact zR _ (by omega)
theorem Wk (hm:BL B S w0 m) (hs:CF B S m ρ a.eval) {s b9 bytes:Nat} {x' y':AR} (h:BA P num o.op (.app s b9 bytes x' y')=true) {ys:List (List AV)} (hy:EB m.own (ρ y')=some ys) (hz : ∀ e∈ys,e.length=b9) (hx:ρ x' = .nil)
  (nk:ys.length*bytes<=EC) (Ib:ys.length<=9223372036854775807) :
  CK B S w0 P o a m (.ea (.row s (m.own.g8 s) b9 0 ys.length) (m.own.put s ((m.own s).new ⟨b9,ys⟩))):=by
 obtain ⟨x,y,ty,e,i,z,tx,ex,n0,h1,h2,hu,hi,w6,qk,er,jk,m8,Cy⟩:=uB h;have h0:0<b9:=Nat.pos_of_ne_zero m8;have cp:=V9 (hx ▸ hs x x' h1);obtain ⟨Ad,ke,news,wi,ff⟩:=gP hm (hs y y' h2) hy hz h0;have ru:Src P i.size tx (.slice Ad ys.length ke) ys.length news m.w:=by rw[w6];exact ff.src h0 hz Cy ke
 intro K Q hK;by_cases ye:ys=[]
 ·subst ye
  have wg:news=[]:=List.eq_nil_of_length_eq_zero (by simpa using ff.len);subst wg;have u4:=xH ty tx e ex i hu Cy hi none 0 (.slice Ad 0 ke) m.w (by simpa using ru) o.type;obtain ⟨k1,k2⟩:=zV hm s b9;refine QA (ZH n0 (by rw[cp,wi];simpa using u4)) (hK _ ⟨l7 m s none,m.own.put s ((m.own s).new ⟨b9,[]⟩),m.w⟩ rfl k1 k2 (.ca (.one (.row s (m.own.g8 s) b9 0 0 none 0 ?_ h0 (Nat.le_refl _) (λ h=>by omega) λ b' m7=>⟨?_,.inl ⟨rfl,rfl⟩⟩))))
  ·show _<AH.g8 _ s
   rw[KF];simp
  ·change AH.get _ s _=some b' at m7
   rw[FO,if_pos ⟨rfl,rfl⟩]at m7;obtain rfl:(⟨b9,[]⟩:DM)=b':=by simpa using m7
   rfl
 ·have Ku:0<ys.length:=List.length_pos_iff.2 ye
  have u4:=run_append_grow_src (P:=P) m.w ty tx o.type e i z hu hi er none 0 0 [] (run_firstCells_none m.w.drew i.size 0 0 0) (.slice Ad ys.length ke) ys.length news ru (by omega) (by omega) (growslice_fits (by omega) (by rw[qk,Nat.zero_add];exact nk));simp only[Nat.zero_add,List.nil_append]at u4;have Cq:news.length=ys.length*b9:=ff.len;have br:ys.length<=grownCap m.w ys.length 0 e:=grownCap_ge _ _ _ _;generalize Ha:grownCap m.w ys.length 0 e=gc at u4 br;have hd:Below m.w.heap.size m.w m.w.drew:=(Below.refl _ _).drew;obtain ⟨lk,xj⟩:=grow hm hd;obtain ⟨k1,k2⟩:=eL lk s ⟨b9,ys⟩ (news.toArray++Builtin.zeroCells z.cells (gc-ys.length)) e hz (λ i' cs q7 j c hj=>by
   obtain ⟨u,lz,ga⟩:=ff.rel i' cs q7 j c hj;refine ⟨u,?_,xj.cc ga⟩;have fu:=(zS lz).1;show (news.toArray++Builtin.zeroCells z.cells (gc-ys.length))[i'*b9+j]? = some u;rw[Array.getElem?_append_left (by simpa using fu)];simpa using lz)
  have Ge:(Builtin.zeroCells z.cells (gc-ys.length)).size=(gc-ys.length)*b9:=by simp [Builtin.zeroCells,jk]
  refine QA (ZH n0 (by rw[cp,wi];exact u4)) (hK _ ⟨l7 ⟨m.ν,m.own,m.w.drew⟩ s (some m.w.drew.heap.size),m.own.put s ((m.own s).new ⟨b9,ys⟩),_⟩ rfl k1 (xj.trans k2) (vP (m:=⟨m.ν,m.own,m.w.drew⟩) h0 br (heap_alloc_new m.w.drew _) ?_));rw[Array.size_append,Ge];simp only[List.size_toArray,Cq];rw[<-Nat.add_mul];exact zR _ (by omega)
end
end Go.e8

namespace Go.e8
open Go.RowKit
section
variable {B:Nat} {S:Nat->Prop} {w0:World} {m:M}
variable {P:Program} {num:Nat->Nat} {o:Oper} {a:Act} {ρ:AR->AV}
structure GD (P:Program) (num:Nat->Nat) (C:Cl):Prop where
 tj : ∀ (f:Nat) (vs:List AV) (r:AV),C.pure f vs=some r -> ∀ (us:Array Value) (w:World),(callFunc (num f) us).run P w = .ok (.enter (num f) us) w
 ow : ∀ (f:Nat) (vs:List AV) (own:AH) (r:AV × AH),C.ic f vs own=some r -> ∀ (us:Array Value) (w:World),(callFunc (num f) us).run P w = .ok (.enter (num f) us) w
 pure : ∀ (f:Nat) (vs:List AV) (r:AV),C.pure f vs=some r -> ∀ (S:Nat->Prop) (w:World) (us:List Value),vs.length=us.length->(∀ (j:Nat) (c:AV) (v:Value),vs[j]? = some c->us[j]? = some v->CA w.heap.size S ⟨λ_ _=>none,AH.emp,w⟩ c v) ->
  Calls P (num f) us.toArray w λ e w' => ∃ u,e = .returned u/\Below w.heap.size w w'/\CV w.heap.size S ⟨λ_ _=>none,AH.emp,w'⟩ r u/\A1 r
 ic : ∀ (f:Nat) (vs:List AV) (own:AH) (r:AV) (n9:AH),C.ic f vs own=some (r,n9) -> ∀ (B:Nat) (S:Nat->Prop) (w0:World) (m:M) (us:List Value),m.own=own->BL B S w0 m->vs.length=us.length->(∀ (j:Nat) (c:AV) (v:Value),vs[j]? = some c->us[j]? = some v->CV B S m c v) ->
  Calls P (num f) us.toArray m.w λ e w' => ∃ u m',e = .returned u/\m'.w=w'/\m'.own=n9/\BL B S w0 m'/\C1 B S m m'/\CV B S m' r u
 num:C.num=num
end
end Go.e8
