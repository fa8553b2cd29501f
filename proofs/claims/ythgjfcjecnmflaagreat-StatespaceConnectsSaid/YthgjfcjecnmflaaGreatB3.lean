/-
  What the checker has seen, operation by operation.
-/
import Derived.Test.YthgjfcjecnmflaaGreatB2
import Derived.Laws.StructEq
import Derived.ChangeKeysEq
import Derived.Laws.Slices
set_option linter.unusedSimpArgs false
set_option linter.unusedVariables false
set_option linter.unnecessarySimpa false
namespace Go.e9
section
variable {P:Program} {num:Nat->Nat} {op:Op}
theorem Qi {y:AP} (h:BB P num op (.a9 y)=true) : ∃ x,(op = .move x\/op = .assign x)/\BZ x y=true:=by
 cases op with
 | move x=>exact ⟨x,.inl rfl,h⟩
 | assign x=>exact ⟨x,.inr rfl,h⟩
 | _=>exact Bool.noConfusion h
theorem Qo {s z:Nat} (h:BB P num op (.ah s z)=true):(op = .move (.const (.slice none 0 0))\/op = .assign (.const (.slice none 0 0)))/\z≠0:=by
 simp only[BB,Bool.and_eq_true,bne_iff_ne]at h;refine ⟨?_,h.1⟩;have h2:=h.2;split at h2<;>simp_all
theorem Qj {c' a' b':AP} (h:BB P num op (.pick c' a' b')=true) : ∃ c a b,op = .pick c a b/\BZ c c'=true/\BZ a a'=true/\BZ b b'=true:=by
 cases op with
 | pick c a b=>simp only[BB,Bool.and_eq_true]at h;exact ⟨c,a,b,rfl,h.1.1,h.1.2,h.2⟩
 | _=>exact Bool.noConfusion h
theorem Rs {f:BinOp} {x' y':AP} (h:BB P num op (.bin f x' y')=true) : ∃ t x y u,op = .binOp f t x y u/\BZ x x'=true/\BZ y y'=true:=by
 cases op with
 | binOp f' t x y u =>
  simp only[BB,Bool.and_eq_true,beq_iff_eq]at h;exact ⟨t,x,y,u,by rw[h.1.1],h.1.2,h.2⟩
 | _=>exact Bool.noConfusion h
theorem Rr {ne:Bool} {x' y':AP} (h:BB P num op (.beq ne x' y')=true) : ∃ t x y u,op = .binOp (if ne then .neq else .eql) t x y u/\P.underlying t=some .bool/\BZ x x'=true/\BZ y y'=true:=by
 cases op with
 | binOp f' t x y u =>
  simp only[BB,Bool.and_eq_true]at h;obtain ⟨⟨⟨h1,h2⟩,h3⟩,h4⟩:=h;refine ⟨t,x,y,u,?_,?_,h3,h4⟩
  ·cases ne<;>simp_all
  ·split at h2<;>simp_all
 | _=>exact Bool.noConfusion h
theorem Qn {f:UnOp} {x':AP} (h:BB P num op (.un f x')=true) : ∃ t x,op = .unOp f t x/\BZ x x'=true:=by
 cases op with
 | unOp f' t x =>
  simp only[BB,Bool.and_eq_true,beq_iff_eq]at h;exact ⟨t,x,by rw[h.1],h.2⟩
 | _=>exact Bool.noConfusion h
theorem Sa {k:IntKind} {x':AP} (h:BB P num op (.conv k x')=true) : ∃ s d x ds,op = .convert s d x/\P.underlying s=some ds/\P.underlying d=some (.int k)/\BZ x x'=true:=by
 cases op with
 | convert s d x =>
  simp only[BB,Bool.and_eq_true]at h;obtain ⟨⟨h1,h2⟩,h3⟩:=h;obtain ⟨ds,wo⟩:=Option.isSome_iff_exists.1 h1;refine ⟨s,d,x,ds,rfl,wo,?_,h3⟩;split at h2<;>simp_all
 | _=>exact Bool.noConfusion h
theorem Rt {s:Nat} {x':AP} (h:BB P num op (.box s x')=true) : ∃ t x,op = .box t x/\BZ x x'=true:=by
 cases op with
 | box t x=>exact ⟨t,x,rfl,h⟩
 | _=>exact Bool.noConfusion h
theorem Rq {s:Nat} {z:List AV} (h:BB P num op (.alloc s z)=true) : ∃ t,op = .alloc t/\RL P t z=true:=by
 cases op with
 | alloc t=>exact ⟨t,rfl,h⟩
 | _=>exact Bool.noConfusion h
theorem Rv {z:List AV} {db:List (Nat × Nat × AP)} (h:BB P num op (.build z db)=true) : ∃ t ps,op = .build t ps/\RL P t z=true/\ZA P t ps.toList db=true:=by
 cases op with
 | build t ps=>simp only[BB,Bool.and_eq_true]at h;exact ⟨t,ps,rfl,h.1,h.2⟩
 | _=>exact Bool.noConfusion h
theorem Q7 {t:TypeId} {f:TypeId->Bool} (h:JF P t f=true) : ∃ e,P.underlying t=some (.slice e)/\f e=true:=by
 unfold JF at h;split at h
 ·rename_i e he;exact ⟨e,he,h⟩
 ·cases h
theorem N8 {t:TypeId} {n:Nat} (h:IU P t n=true) : ∃ i,P.info? t=some i/\i.size=n:=by
 unfold IU at h;split at h
 ·rename_i i hi;exact ⟨i,hi,by simpa using h⟩
 ·cases h
theorem fY {t:TypeId} {n:Nat} (h:TK P t n=true) : ∃ i,P.info? t=some i/\i.bytes=n:=by
 unfold TK at h;split at h
 ·rename_i i hi;exact ⟨i,hi,by simpa using h⟩
 ·cases h
theorem dU {t:TypeId} {l:List AV} (h:RL P t l=true) : ∃ i z,P.info? t=some i/\i.zero=some z/\OP z.cells.toList l=true:=by
 unfold RL at h;split at h
 ·rename_i i hi
  split at h
  ·rename_i z hz;exact ⟨i,z,hi,hz,h⟩
  ·cases h
 ·cases h
theorem Y1 {t:TypeId} {b:Bool} (h:(RU P t == some b)=true) : ∀ w,(isAgg t).run P w = .ok b w:=by
 intro w;have h':RU P t=some b:=by simpa using h
 unfold RU at h';unfold isAgg;cases hu:P.underlying t with
 | none=>rw[hu]at h';cases h'
 | some d =>
  rw[hu]at h';rw[Sem.run_bind,run_underlying hu];cases d<;>simp_all<;>rfl
theorem rW {e:TypeId} {n:Nat} (h:(match P.info? e with|some i=>(match i.zero with|some z=>z.cells.size == n|none=>false)|none=>false)=true) : ∃ i z,P.info? e=some i/\i.zero=some z/\z.cells.size=n:=by
 split at h
 ·rename_i i hi
  split at h
  ·rename_i z hz;exact ⟨i,z,hi,hz,by simpa using h⟩
  ·cases h
 ·cases h
theorem Ru {s a8:Nat} {db:List AP} (h:BB P num op (.c4 s a8 db)=true) : ∃ t n ps e i,op = .buildSlice t n ps/\P.underlying t=some (.slice e)/\P.info? e=some i/\i.size=a8/\a8≠0/\n=db.length/\n*a8<=16777216/\QJ 0 ps.toList db=true/\(n=0 \/ ∃ z,i.zero=some z/\z.cells.size=a8):=by
 cases op with
 | buildSlice t n ps =>
  simp only[BB,Bool.and_eq_true,decide_eq_true_eq,bne_iff_ne,beq_iff_eq,Bool.or_eq_true]at h;obtain ⟨⟨⟨⟨⟨h1,h2⟩,h3⟩,h4⟩,h5⟩,h6⟩:=h;obtain ⟨e,he,h1⟩:=Q7 h1;obtain ⟨i,hi,hs⟩:=N8 h1;refine ⟨t,n,ps,e,i,rfl,he,hi,hs,h2,h3,h4,h5,h6.imp id λ h6 => ?_⟩;obtain ⟨e',ga,h6⟩:=Q7 h6;rw[he]at ga;obtain rfl:e=e':=by simpa using ga
  obtain ⟨i',z,q5,hz,xh⟩:=rW h6;rw[hi]at q5;obtain rfl:i=i':=by simpa using q5
  exact ⟨z,hz,xh⟩
 | _=>exact Bool.noConfusion h
theorem mM {x':AP} {off:Nat} (h:BB P num op (.a5 x' off)=true) : ∃ t x f fs fd i,op = .fieldAddr t x f/\BZ x x'=true/\P.underlying t=some (.struct fs)/\fs[f]? = some fd/\fd.offset=off/\P.info? fd.type=some i/\i.size≠0:=by
 cases op with
 | fieldAddr t x f =>
  simp only[BB,Bool.and_eq_true]at h;obtain ⟨h1,h2⟩:=h;split at h2
  ·rename_i fs Ck
   split at h2
   ·rename_i fd Cj
    simp only[Bool.and_eq_true,beq_iff_eq]at h2;obtain ⟨h3,h4⟩:=h2;split at h4
    ·rename_i i hi
     exact ⟨t,x,f,fs,fd,i,rfl,h1,Ck,Cj,h3,hi,by simpa using h4⟩
    ·cases h4
   ·cases h2
  ·cases h2
 | _=>exact Bool.noConfusion h
theorem Sc {x':AP} {off n:Nat} {agg:Bool} (h:BB P num op (.lg x' off n agg)=true) : ∃ t x f fs fd i,op = .field t x f/\BZ x x'=true/\P.underlying t=some (.struct fs)/\fs[f]? = some fd/\fd.offset=off/\P.info? fd.type=some i/\i.size=n/\(∀ w,(isAgg fd.type).run P w = .ok agg w)/\n≠0:=by
 cases op with
 | field t x f =>
  simp only[BB,Bool.and_eq_true]at h;obtain ⟨⟨h1,h2⟩,h3⟩:=h;unfold kY at h2;unfold kZ at h3;split at h2
  ·rename_i fs Ck
   split at h2
   ·rename_i fd Cj
    simp only[Bool.and_eq_true,beq_iff_eq,bne_iff_ne]at h2;obtain ⟨⟨h4,h5⟩,h6⟩:=h2;obtain ⟨i,hi,hs⟩:=N8 h5;rw[Ck]at h3;simp only[Cj]at h3;exact ⟨t,x,f,fs,fd,i,rfl,h1,Ck,Cj,h4,hi,hs,Y1 h3,h6⟩
   ·cases h2
  ·cases h2
 | _=>exact Bool.noConfusion h
theorem W7 {arr:Option Nat} {a8:Nat} {x' i':AP} (h:BB P num op (.a7 arr a8 x' i')=true) : ∃ t x i e inf,op = .indexAddr t x i/\BZ x x'=true/\BZ i i'=true/\P.info? e=some inf/\inf.size=a8 /\
  ((∃ len,arr=some len/\P.underlying t=some (.array len e)/\1<len)\/(arr=none/\P.underlying t=some (.slice e)/\a8≠0)):=by
 cases op with
 | indexAddr t x i =>
  simp only[BB,Bool.and_eq_true]at h;obtain ⟨⟨h1,h2⟩,h3⟩:=h;split at h3
  ·rename_i len e om hu
   simp only[Bool.and_eq_true,beq_iff_eq,decide_eq_true_eq]at h3;obtain ⟨⟨h4,h5⟩,h6⟩:=h3;obtain ⟨inf,hi,hs⟩:=N8 h5;exact ⟨t,x,i,e,inf,rfl,h1,h2,hi,hs,.inl ⟨len,by rw[h4],hu,h6⟩⟩
  ·rename_i e hu
   simp only[Bool.and_eq_true,bne_iff_ne]at h3;obtain ⟨inf,hi,hs⟩:=N8 h3.1;exact ⟨t,x,i,e,inf,rfl,h1,h2,hi,hs,.inr ⟨rfl,hu,h3.2⟩⟩
  ·cases h3
 | _=>exact Bool.noConfusion h
theorem mN {agg:Bool} {n:Nat} {x':AP} (h:BB P num op (.ld agg n x')=true) : ∃ t x,op = .load t x/\BZ x x'=true/\(∀ w,(isAgg t).run P w = .ok agg w)/\(if agg then ∃ i,P.info? t=some i/\i.size=n else n=1):=by
 cases op with
 | load t x =>
  simp only[BB,Bool.and_eq_true]at h;obtain ⟨⟨h1,h2⟩,h3⟩:=h;refine ⟨t,x,rfl,h1,Y1 h2,?_⟩;cases agg
  ·simpa using h3
  ·exact N8 (by simpa using h3)
 | _=>exact Bool.noConfusion h
theorem Ql {n:Nat} {x' v':AP} (h:BB P num op (.st n x' v')=true) : ∃ t x v i,op = .store t x v/\BZ x x'=true/\BZ v v'=true/\P.info? t=some i/\i.size=n:=by
 cases op with
 | store t x v =>
  simp only[BB,Bool.and_eq_true]at h;obtain ⟨⟨h1,h2⟩,h3⟩:=h;obtain ⟨i,hi,hs⟩:=N8 h3;exact ⟨t,x,v,i,rfl,h1,h2,hi,hs⟩
 | _=>exact Bool.noConfusion h
theorem Qg {s a8 bytes:Nat} {zero:List AV} {l' c':AP} (h:BB P num op (.mk s a8 bytes zero l' c')=true) : ∃ t l c e i z,op = .makeSlice t l c/\BZ l l'=true/\BZ c c'=true/\P.underlying t=some (.slice e)/\P.info? e=some i/\i.size=a8/\i.bytes=bytes/\i.zero=some z/\OP z.cells.toList zero=true/\a8≠0:=by
 cases op with
 | makeSlice t l c =>
  simp only[BB,Bool.and_eq_true,bne_iff_ne]at h;obtain ⟨⟨⟨h1,h2⟩,h3⟩,h4⟩:=h;obtain ⟨e,he,h3⟩:=Q7 h3;simp only[Bool.and_eq_true]at h3;obtain ⟨⟨h5,h6⟩,h7⟩:=h3;obtain ⟨i,hi,hs⟩:=N8 h5;obtain ⟨i2,rj,ql⟩:=fY h6;obtain ⟨i3,z,An,hz,gj⟩:=dU h7;rw[hi]at rj An;obtain rfl:i=i2:=by simpa using rj
  obtain rfl:i=i3:=by simpa using An
  exact ⟨t,l,c,e,i,z,rfl,h1,h2,he,hi,hs,ql,hz,gj,h4⟩
 | _=>exact Bool.noConfusion h
theorem aY {a8:Nat} {x':AP} {ma q5:Option AP} (h:BB P num op (.ew a8 x' ma q5)=true) : ∃ t x lo hi e i,op = .slice t x lo hi none/\BZ x x'=true/\N2 lo ma=true/\N2 hi q5=true/\P.underlying t=some (.slice e)/\P.info? e=some i/\i.size=a8/\a8≠0:=by
 cases op with
 | slice t x lo hi mx =>
  cases mx with
  | some _=>exact Bool.noConfusion h
  | none =>
   simp only[BB,Bool.and_eq_true,bne_iff_ne]at h;obtain ⟨⟨⟨⟨h1,h2⟩,h3⟩,h4⟩,h5⟩:=h;obtain ⟨e,he,h4⟩:=Q7 h4;obtain ⟨i,q5,hs⟩:=N8 h4;exact ⟨t,x,lo,hi,e,i,rfl,h1,h2,h3,he,q5,hs,h5⟩
 | _=>exact Bool.noConfusion h
theorem Sb {x':AP} {i:Nat} (h:BB P num op (.ext x' i)=true) : ∃ x,op = .extract x i/\BZ x x'=true:=by
 cases op with
 | extract x j =>
  simp only[BB,Bool.and_eq_true,beq_iff_eq]at h;exact ⟨x,by rw[h.2],h.1⟩
 | _=>exact Bool.noConfusion h
theorem rH {α:Type} {xs:Array α} {x y:α} (h:xs.toList=[x,y]):xs = #[x,y]:=by cases xs;simp_all
theorem rG {α:Type} {xs:Array α} {x:α} (h:xs.toList=[x]):xs = #[x]:=by cases xs;simp_all
theorem Qf {x':AP} (h:BB P num op (.len x')=true) : ∃ x t e,op = .call ⟨.builtin .len,#[x],#[t]⟩/\BZ x x'=true/\P.underlying t=some (.slice e):=by
 cases op with
 | call c =>
  obtain ⟨cl,xs,ts⟩:=c;cases cl with
  | builtin b =>
   cases b<;>first|exact Bool.noConfusion h|skip
   simp only[BB]at h;split at h
   ·rename_i x t hx ht
    simp only[Bool.and_eq_true]at h;obtain ⟨e,he,_⟩:=Q7 h.2;exact ⟨x,t,e,by rw[rG hx,rG ht],h.1,he⟩
   ·cases h
  | value f=>cases f<;>exact Bool.noConfusion h
  | invoke=>exact Bool.noConfusion h
 | _=>exact Bool.noConfusion h
theorem mO {mx:Bool} {o3:List AP} (h:BB P num op (.mm mx o3)=true) : ∃ xs ts,op = .call ⟨.builtin (if mx then .max else .min),xs,ts⟩/\D8 xs.toList o3=true:=by
 cases op with
 | call c =>
  obtain ⟨cl,xs,ts⟩:=c;cases cl with
  | builtin b =>
   cases b<;>first|exact Bool.noConfusion h|skip
   all_goals
    simp only[BB,Bool.and_eq_true]at h;refine ⟨xs,ts,?_,h.2⟩;cases mx<;>simp_all
  | value f=>cases f<;>exact Bool.noConfusion h
  | invoke=>exact Bool.noConfusion h
 | _=>exact Bool.noConfusion h
theorem mK {s a8 bytes:Nat} {x' y':AP} (h:BB P num op (.app s a8 bytes x' y')=true) : ∃ x y t e i z tx ex,op = .call ⟨.builtin .append,#[x,y],#[t,tx]⟩/\BZ x x'=true/\BZ y y'=true/\P.underlying t=some (.slice e)/\P.info? e=some i/\i.size=a8/\i.bytes=bytes/\i.zero=some z/\z.cells.size=a8/\a8≠0/\P.underlying tx=some (.slice ex):=by
 cases op with
 | call c =>
  obtain ⟨cl,xs,ts⟩:=c;cases cl with
  | builtin b =>
   cases b<;>first|exact Bool.noConfusion h|skip
   simp only[BB]at h;split at h
   ·rename_i x y t u hx ht
    simp only[Bool.and_eq_true,beq_iff_eq,bne_iff_ne]at h;obtain ⟨⟨⟨⟨h1,h2⟩,h3⟩,h4⟩,h5⟩:=h;obtain ⟨e,he,h3⟩:=Q7 h3;simp only[Bool.and_eq_true]at h3;obtain ⟨⟨h6,h7⟩,h8⟩:=h3;obtain ⟨i,hi,hs⟩:=N8 h6;obtain ⟨i2,rj,ql⟩:=fY h7;obtain ⟨i3,z,An,hz,gj⟩:=rW h8;rw[hi]at rj An;obtain rfl:i=i2:=by simpa using rj
    obtain rfl:i=i3:=by simpa using An
    obtain ⟨ex,hex,_⟩:=Q7 h5;exact ⟨x,y,t,e,i,z,u,ex,by rw[rH hx,rH ht],h1,h2,he,hi,hs,ql,hz,gj,h4,hex⟩
   ·cases h
  | value f=>cases f<;>exact Bool.noConfusion h
  | invoke=>exact Bool.noConfusion h
 | _=>exact Bool.noConfusion h
theorem aW {f:Nat} {o3:List AP} (h:BB P num op (.call f o3)=true) : ∃ xs ts,op = .call ⟨.value (.func (num f)),xs,ts⟩/\D8 xs.toList o3=true:=by
 cases op with
 | call c =>
  obtain ⟨cl,xs,ts⟩:=c;cases cl with
  | builtin b=>cases b<;>exact Bool.noConfusion h
  | value g =>
   cases g with
   | func g =>
    simp only[BB,Bool.and_eq_true,beq_iff_eq]at h;exact ⟨xs,ts,by rw[h.1],h.2⟩
   | _=>exact Bool.noConfusion h
  | invoke=>exact Bool.noConfusion h
 | _=>exact Bool.noConfusion h
theorem Rw {f:Nat} {o3:List AP} (h:BB P num op (.e8 f o3)=true) : ∃ xs ts,op = .call ⟨.value (.func (num f)),xs,ts⟩/\D8 xs.toList o3=true:=by
 cases op with
 | call c =>
  obtain ⟨cl,xs,ts⟩:=c;cases cl with
  | builtin b=>cases b<;>exact Bool.noConfusion h
  | value g =>
   cases g with
   | func g =>
    simp only[BB,Bool.and_eq_true,beq_iff_eq]at h;exact ⟨xs,ts,by rw[h.1],h.2⟩
   | _=>exact Bool.noConfusion h
  | invoke=>exact Bool.noConfusion h
 | _=>exact Bool.noConfusion h
theorem Rx {f:Nat} {o3:List AP} (h:BB P num op (.l9 f o3)=true):BB P num op (.call f o3)=true:=by
 cases op<;>exact h
theorem Rz {s f:Nat} {o3:List AP} (h:BB P num op (.bg s f o3)=true):BB P num op (.e8 f o3)=true:=by
 cases op<;>exact h
theorem Ry {s f:Nat} {o3:List AP} (h:BB P num op (.m6 s f o3)=true):BB P num op (.call f o3)=true:=by
 cases op<;>exact h
theorem Qm {s n:Nat} {x' v':AP} (h:BB P num op (.kz s n x' v')=true):BB P num op (.st n x' v')=true:=by
 cases op<;>exact h
theorem mL {s a8 bytes:Nat} {x' y':AP} (h:BB P num op (.v9 s a8 bytes x' y')=true):BB P num op (.app s a8 bytes x' y')=true:=by
 cases op<;>exact h
theorem Qe {ne:Bool} {x':AP} (h:BB P num op (.oi ne x')=true) : ∃ t x u e,op = .binOp (if ne then .neq else .eql) t x (.const (.slice none 0 0)) u/\P.underlying t=some (.slice e)/\BZ x x'=true:=by
 cases op with
 | binOp f' t x y u =>
  simp only[BB]at h;split at h
  ·rename_i heq
   simp only[Op.binOp.injEq]at heq;obtain ⟨rfl,rfl,rfl,rfl,rfl⟩:=heq;simp only[Bool.and_eq_true]at h;obtain ⟨⟨h1,h2⟩,h3⟩:=h;unfold JF at h2;split at h2
   ·rename_i e he
    refine ⟨t,x,u,e,?_,he,h3⟩;cases ne
    ·simp only[Bool.false_eq_true,if_false,beq_iff_eq]at h1;rw[h1];rfl
    ·simp only[if_true,beq_iff_eq]at h1;rw[h1];rfl
   ·cases h2
  ·cases h
 | _=>exact Bool.noConfusion h
theorem Qk {tb:List Nat} {i':AP} (h:BB P num op (.eu tb i')=true) : ∃ t s i,op = .index t (.const (.string s)) i/\P.underlying t=some .string/\s.data.toList.map (λ b=>b.toNat)=tb/\BZ i i'=true:=by
 cases op with
 | index t x i =>
  simp only[BB]at h;split at h
  ·rename_i heq
   simp only[Op.index.injEq]at heq;obtain ⟨rfl,rfl,rfl⟩:=heq;simp only[Bool.and_eq_true,beq_iff_eq]at h;obtain ⟨⟨h1,h2⟩,h3⟩:=h;exact ⟨_,_,_,rfl,by split at h1<;>simp_all,h2,h3⟩
  ·cases h
 | _=>exact Bool.noConfusion h
theorem Qh {p:Bool} {f:Nat} {o3:List AP} (h:BB P num op (.mh p f o3)=true) : ∃ first xs,op = .makeFunc (.func (num f)) first xs/\first = #[]/\D8 xs.toList o3=true:=by
 cases op with
 | makeFunc g first xs =>
  cases g with
  | func g =>
   simp only[BB,Bool.and_eq_true,beq_iff_eq]at h;obtain ⟨⟨rfl,h2⟩,h3⟩:=h;refine ⟨first,xs,rfl,?_,h3⟩;obtain ⟨l⟩:=first
   simp at h2;rw[h2]
  | _=>exact Bool.noConfusion h
 | _=>exact Bool.noConfusion h
theorem aX {x':AP} {o3:List AP} (h:BB P num op (.o0 x' o3)=true) : ∃ x xs ts,op = .call ⟨.value x,xs,ts⟩/\BZ x x'=true/\D8 xs.toList o3=true:=by
 cases op with
 | call c =>
  obtain ⟨cl,xs,ts⟩:=c;cases cl with
  | builtin b=>cases b<;>exact Bool.noConfusion h
  | value g =>
   simp only[BB,Bool.and_eq_true]at h;exact ⟨g,xs,ts,rfl,h.1,h.2⟩
  | invoke=>exact Bool.noConfusion h
 | _=>exact Bool.noConfusion h
end
end Go.e9
namespace Go.e9
open Go.RowKit
def B7.w7:B7->AH->AH
 | .val _,o=>o
 | .new s b _,o=>o.put s ((o s).new b)
 | .tz s b _,o=>o.put s ((o s).new b)
 | .cr _ o',_=>o'
 | .o9 s x,o=>o.put s x
 | .nu s x _,o=>o.put s x
def B7.valOf:B7->AH->AV
 | .val v,_=>v
 | .new s _ v,o=>v (o.g8 s)
 | .tz s _ v,o=>v (o.g8 s)
 | .cr v _,_=>v
 | .o9 _ _,_ => .j4 []
 | .nu _ _ v,_=>v
section
variable {B:Nat} {S:Nat->Prop} {w0:World} {m:M}
theorem HX {k:IntKind} {n:Int} {v:Value} (h:CV B S m (.int k n) v):v = .int k n:=by
 cases h with
 | ca h=>cases h with
  | one h=>cases h with
   | rd h=>cases h;rfl
theorem QF {b:Bool} {v:Value} (h:CV B S m (.bool b) v):v = .bool b:=by
 cases h with
 | ca h=>cases h with
  | one h=>cases h with
   | rd h=>cases h;rfl
theorem yE {cs:List AV} {v:Value} (h:CV B S m (.agg cs) v) : ∃ vs:List Value,v = .agg vs.toArray/\CL B S m cs vs:=by
 cases h with
 | ca h=>cases h with
  | one h=>cases h with
   | rd h=>cases h
  | agg _ vs h=>exact ⟨vs,rfl,h⟩
theorem ZI {cs:List AV} {v:Value} (h:CV B S m (.j4 cs) v) : ∃ vs:List Value,v = .tuple vs.toArray/\cs.length=vs.length /\ ∀ (j:Nat) (c:AV) (u:Value),cs[j]? = some c->vs[j]? = some u->CA B S m c u:=by
 cases h with
 | ca h=>cases h with
  | one h=>cases h with
   | rd h=>cases h
 | j4 _ vs hl h=>exact ⟨vs,rfl,hl,h⟩
theorem PK (k:IntKind) (n:Int):CV B S m (.int k n) (.int k n):= .ca (.one (.rd (.int k n)))
theorem XB (b:Bool):CV B S m (.bool b) (.bool b):= .ca (.one (.rd (.bool b)))
theorem nR:CV B S m (.j4 []) undef := .j4 [] [] rfl (λ j c v h=>by simp at h)
theorem WJ {a:AV} {cs:List AV} {v:Value} (h:CV B S m a v) (hc:cellsOf a=some cs):CL B S m cs v.cells.toList:=by
 cases h with
 | any v=>simp [cellsOf]at hc
 | j4=>simp [cellsOf]at hc
 | ca h=>cases h with
  | agg dc vs h =>
   obtain rfl:dc=cs:=by simpa [cellsOf] using hc
   simpa [Value.cells] using h
  | fn=>simp [cellsOf]at hc
  | po=>simp [cellsOf]at hc
  | one h =>
   have h1:v.cells.toList=[v]:=by
    cases h with
    | rd h=>cases h<;>rfl
    | _=>rfl
   have h2:cs=[a]:=by
    cases h with
    | rd h=>cases h<;>simp [cellsOf]at hc<;>exact hc.symm
    | _=>simp [cellsOf]at hc;exact hc.symm
   rw[h1,h2];refine ⟨rfl,λ j c u hj hu => ?_⟩;cases j with
   | zero=>simp at hj hu;subst hj hu;exact h
   | succ j=>simp at hj
theorem xD {cs:List AV} {vs:List Value} (h:CL B S m cs vs) : ∀ v∈vs,v.oneCell'=true:=by
 intro v hv;obtain ⟨j,hj,rfl⟩:=List.getElem_of_mem hv;have yk:j<cs.length:=by rw[h.1];exact hj
 exact (h.2 j cs[j] vs[j] (zE yk) (zE hj)).one
theorem xF {cs:List AV} {vs:List Value} (h:CL B S m cs vs) (off n:Nat):CL B S m ((cs.drop off).take n) ((vs.drop off).take n):=by
 refine ⟨by simp [h.1],λ j c v hj hv => ?_⟩;rw[List.getElem?_take]at hj hv;split at hj
 ·rename_i l7
  rw[if_pos l7]at hv;rw[List.getElem?_drop]at hj hv;exact h.2 _ c v hj hv
 ·cases hj
theorem jH {v:Value} {a:AV} (h:WT v a=true):CC B S m a v:=by
 unfold WT at h;split at h
 ·simp only[Bool.and_eq_true,beq_iff_eq]at h
  obtain ⟨rfl,rfl⟩:=h;exact .rd (.int _ _)
 ·obtain rfl:_=_:=by simpa using h
  exact .rd (.bool _)
 ·exact .nil
 ·rename_i s s'
  obtain rfl:s=s':=by
   have h':s.data.toList=s'.data.toList:=by simpa using h
   obtain ⟨⟨l⟩⟩:=s;obtain ⟨⟨l'⟩⟩:=s';simp only at h';rw[h']
  exact .rd (.str _)
 ·exact .rd .jn
 ·cases h
theorem R9 : ∀ {vs:List Value} {cs:List AV},OP vs cs=true->CL B S m cs vs
 | [],[],_=>⟨rfl,λ j c v h=>by simp at h⟩
 | v::r,c::l,h=>by
  simp only[OP,Bool.and_eq_true]at h;have ih:=R9 (vs:=r) (cs:=l) h.2;refine ⟨by simp [ih.1],λ j c' v' hj hv => ?_⟩;cases j with
  | zero=>simp at hj hv;subst hj hv;exact jH h.1
  | succ j=>exact ih.2 j c' v' (by simpa using hj) (by simpa using hv)
 | [],_::_,h=>by simp [OP]at h
 | _::_,[],h=>by simp [OP]at h
theorem Le {v:Value} {a:AV} (h:ZW v a=true):CV B S m a v:=by
 unfold ZW at h;split at h
 ·rename_i cs l
  have:=R9 (B:=B) (S:=S) (m:=m) h
  exact .ca (by simpa using CA.agg l cs.toList this)
 ·exact .ca (.one (jH h))
def CX (B:Nat) (S:Nat->Prop) (m:M) (ρ:AP->AV) (e:Operand->Value):Prop := ∀ x y,BZ x y=true->CV B S m (ρ y) (e x)
theorem Sn {T:Nat->AV} {a:Act} {ρ:AP->AV} (hρt : ∀ n,ρ (.t n)=T n) (Jo : ∀ v,ρ (.c v)=v) (h : ∀ i,CV B S m (T i) (a.tmps.getD i undef)):CX B S m ρ a.eval:=by
 intro x y ko;unfold BZ at ko;split at ko
 ·obtain rfl:_=_:=by simpa using ko
  rw[hρt];exact h _
 ·rw[Jo]
  exact Le ko
 ·obtain rfl:_=_:=by simpa using ko
  rw[Jo];exact .ca (.fn _ _ _ [] [] (λ_=>rfl) ⟨rfl,λ j c v h=>by simp at h⟩)
 ·cases ko
variable {P:Program} {num:Nat->Nat} {o:Oper} {a:Act} {ρ:AP->AV} {K:Act->World->Prop} {Q:Exit->Act->World->Prop}
theorem O4 {w w':World} {u:Value} (h:(execOp a.eval o).run P w = .ok (.value u) w') (hk:K (a.put o.dst u) w'):o.wp P a w K Q:=by
 unfold Oper.wp;rw[h];exact hk
theorem Ve {w w':World} (h:(execOp a.eval o).run P w = .ok .skip w') (hk:K (a.put o.dst undef) w'):o.wp P a w K Q:=by
 unfold Oper.wp;rw[h];exact hk
def CY (B:Nat) (S:Nat->Prop) (w0:World) (P:Program) (o:Oper) (a:Act) (m:M) (E:B7):Prop :=
 ∀ (K:Act->World->Prop) (Q:Exit->Act->World->Prop),(∀ u m',m'.own=E.w7 m.own->BR B S w0 m'->DI B S m m'->CV B S m' (E.valOf m.own) u->K (a.put o.dst u) m'.w)->o.wp P a m.w K Q
theorem EI (hm:BR B S w0 m) {v:AV} {u:Value} (h:(execOp a.eval o).run P m.w = .ok (.value u) m.w) (hc:CV B S m v u):CY B S w0 P o a m (.val v) :=
 λ K Q hK=>O4 h (hK u m rfl hm (DI.refl m) hc)
theorem Me (hm:BR B S w0 m) (hs:CX B S m ρ a.eval) {y:AP} (h:BB P num o.op (.a9 y)=true):CY B S w0 P o a m (.val (ρ y)):=by
 obtain ⟨x,hx,he⟩:=Qi h;refine EI hm (u:=a.eval x) ?_ (hs x y he);rcases hx with hx|hx<;>simp [execOp,hx]
theorem Ml (hm:BR B S w0 m) {s z:Nat} (h:BB P num o.op (.ah s z)=true):CY B S w0 P o a m (.tz s ⟨z,[]⟩ (λ t => .row s t z 0 0)):=by
 obtain ⟨hx,hz⟩:=Qo h;intro K Q hK;obtain ⟨h1,h2⟩:=rO hm s z;refine O4 (u := .slice none 0 0) (w':=m.w) ?_ (hK _ ⟨j5 m s none,m.own.put s ((m.own s).new ⟨z,[]⟩),m.w⟩ rfl h1 h2 ?_)
 ·rcases hx with hx|hx<;>simp [execOp,hx,Act.eval]
 ·refine .ca (.one (.row s (m.own.g8 s) z 0 0 none 0 ?_ (by omega) (Nat.le_refl _) (λ h=>by omega) λ b hb => ?_))
  ·show _<AH.g8 _ s
   rw[J7];simp
  ·change AH.get _ s _=some b at hb
   rw[F4,if_pos ⟨rfl,rfl⟩]at hb;obtain rfl:(⟨z,[]⟩:DZ)=b:=by simpa using hb
   exact ⟨rfl,.inl ⟨rfl,rfl⟩⟩
theorem iN (hm:BR B S w0 m) (hs:CX B S m ρ a.eval) {c' a' b':AP} (h:BB P num o.op (.pick c' a' b')=true) {t:Bool} (hc:ρ c' = .bool t) :
  CY B S w0 P o a m (.val (if t then ρ a' else ρ b')):=by
 obtain ⟨c,x,y,k9,h1,h2,h3⟩:=Qj h;have u7:=QF (hc ▸ hs c c' h1);refine EI hm (u:=if t then a.eval x else a.eval y) ?_ ?_
 ·cases t<;>simp [execOp,k9,u7,asBool]
 ·cases t
  ·exact hs y b' h3
  ·exact hs x a' h2
theorem Sh (f:BinOp) (t:TypeId) (k k':IntKind) (x y:Int) (v:AV) (h:DJ f k x k' y=some v) (w:World) : ∃ u,(binOp f t (.int k x) (.int k' y)).run P w = .ok u w/\((∃ n,v = .int k n/\u = .int k n) \/ ∃ b,v = .bool b/\u = .bool b):=by
 cases f<;>simp only[DJ]at h;case shl =>
  split at h
  ·cases h
  ·rename_i hy;simp at h;subst h
   exact ⟨_,by simp [binOp,Op.shift,hy],.inl ⟨_,rfl,rfl⟩⟩
 case shr =>
  split at h
  ·cases h
  ·rename_i hy;simp at h;subst h
   exact ⟨_,by simp [binOp,Op.shift,hy],.inl ⟨_,rfl,rfl⟩⟩
 case quo =>
  split at h
  ·rename_i hy;obtain ⟨rfl,hy⟩:=hy;simp at h;subst h
   exact ⟨_,by simp [binOp,Op.intDiv,hy],.inl ⟨_,rfl,rfl⟩⟩
  ·cases h
 case rem =>
  split at h
  ·rename_i hy;obtain ⟨rfl,hy⟩:=hy;simp at h;subst h
   exact ⟨_,by simp [binOp,Op.intDiv,hy],.inl ⟨_,rfl,rfl⟩⟩
  ·cases h
 case and|or|xor|andNot =>
  all_goals
   split at h
   ·rename_i hk;subst hk;obtain rfl:=Option.some.inj h
    exact ⟨_,by simp only[binOp,ne_eq,not_true_eq_false,if_false];rfl,.inl ⟨_,rfl,rfl⟩⟩
   ·cases h
 case add|sub|mul =>
  all_goals
   split at h
   ·rename_i hk;subst hk;obtain rfl:=Option.some.inj h
    exact ⟨_,by simp [binOp,Op.intArith],.inl ⟨_,rfl,rfl⟩⟩
   ·cases h
 all_goals
  split at h
  ·rename_i hk;subst hk;obtain rfl:=Option.some.inj h
   exact ⟨_,by simp [binOp,Op.intCmp],.inr ⟨_,rfl,rfl⟩⟩
  ·cases h
theorem Tj (f:BinOp) (t:TypeId) (x y:Operand) (k k':IntKind) (n n':Int) (w:World):(eqGuard f t x y (.int k n) (.int k' n')).run P w = .ok () w:=by
 unfold eqGuard;cases f<;>simp
theorem Tk (f:BinOp) (t:TypeId) (x y:Operand) (b b':Bool) (w:World):(eqGuard f t x y (.bool b) (.bool b')).run P w = .ok () w:=by
 unfold eqGuard;cases f<;>simp
theorem zF (hm:BR B S w0 m) (hs:CX B S m ρ a.eval) {f:BinOp} {x' y':AP} (h:BB P num o.op (.bin f x' y')=true) {k k':IntKind} {n n':Int} {v:AV} (hx:ρ x' = .int k n) (hy:ρ y' = .int k' n') (hv:DJ f k n k' n'=some v) :
  CY B S w0 P o a m (.val v):=by
 obtain ⟨t,x,y,u,k9,h1,h2⟩:=Rs h;have ex:=HX (hx ▸ hs x x' h1);have ey:=HX (hy ▸ hs y y' h2);obtain ⟨r,hr,dh⟩:=Sh (P:=P) f t k k' n n' v hv m.w;refine EI hm (u:=r) ?_ ?_
 ·simp [execOp,k9,ex,ey,Tj,hr]
 ·rcases dh with ⟨q,rfl,rfl⟩|⟨q,rfl,rfl⟩
  ·exact PK _ _
  ·exact XB _
theorem Se (t:TypeId) (b b':Bool) (hu:P.underlying t=some .bool) (w:World):(Op.equal t (.bool b) (.bool b')).run P w = .ok (b == b') w:=by
 have h : ∀ d:Nat,(Op.equalIn (d+1) t (.bool b) (.bool b')).run P w = .ok (b == b') w:=λ d=>by
  unfold Op.equalIn;rw[Sem.run_bind,run_underlying hu];rfl
 exact h 9999
theorem zD (hm:BR B S w0 m) (hs:CX B S m ρ a.eval) {ne:Bool} {x' y':AP} (h:BB P num o.op (.beq ne x' y')=true) {b b':Bool} (hx:ρ x' = .bool b) (hy:ρ y' = .bool b') :
  CY B S w0 P o a m (.val (.bool (if ne then !(b == b') else b == b'))):=by
 obtain ⟨t,x,y,u,k9,hu,h1,h2⟩:=Rr h;have ex:=QF (hx ▸ hs x x' h1);have ey:=QF (hy ▸ hs y y' h2);refine EI hm (u := .bool (if ne then !(b == b') else b == b')) ?_ (XB _);cases ne<;>simp [execOp,k9,ex,ey,Tk,binOp,Se t b b' hu]
theorem Mj (hm:BR B S w0 m) (hs:CX B S m ρ a.eval) {f:UnOp} {x':AP} (h:BB P num o.op (.un f x')=true) {v:AV} (hv:PX f (ρ x')=some v):CY B S w0 P o a m (.val v):=by
 obtain ⟨t,x,k9,h1⟩:=Qn h;have hx:=hs x x' h1;unfold PX at hv;split at hv
 ·rename_i k n hk
  have ex:=HX (hk ▸ hx);split at hv
  ·obtain rfl:_=v:=by simpa using hv
   exact EI hm (by simp [execOp,k9,ex,Op.unary,Op.intArith]) (PK _ _)
  ·obtain rfl:_=v:=by simpa using hv
   exact EI hm (by simp only[execOp,k9,ex,Op.unary];rfl) (PK _ _)
  ·cases hv
 ·rename_i b hk
  have ex:=QF (hk ▸ hx);split at hv
  ·obtain rfl:_=v:=by simpa using hv
   exact EI hm (by simp [execOp,k9,ex,Op.unary]) (XB _)
  ·cases hv
 ·cases hv
theorem zQ (hm:BR B S w0 m) (hs:CX B S m ρ a.eval) {k:IntKind} {x':AP} (h:BB P num o.op (.conv k x')=true) {k':IntKind} {n:Int} (hx:ρ x' = .int k' n):CY B S w0 P o a m (.val (.int k (k.wrap n))):=by
 obtain ⟨s,d,x,ds,k9,wo,hd,h1⟩:=Sa h;have ex:=HX (hx ▸ hs x x' h1);refine EI hm (u := .int k (k.wrap n)) ?_ (PK _ _);simp [execOp,k9,ex,convert,run_underlying wo,run_underlying hd,Conv.intToInt]
theorem Sf (t:TypeId) (a:Option Addr) (n c:Nat) {e:TypeId} (hu:P.underlying t=some (.slice e)) (w:World):(Op.equal t (.slice a n c) (.slice none 0 0)).run P w = .ok a.isNone w:=by
 have h : ∀ d:Nat,(Op.equalIn (d+1) t (.slice a n c) (.slice none 0 0)).run P w = .ok a.isNone w:=λ d=>by
  unfold Op.equalIn;rw[Sem.run_bind,run_underlying hu];cases a<;>rfl
 exact h 9999
theorem Sd (f:BinOp) (t:TypeId) (x y:Operand) (a b:Option Addr) (n c n' c':Nat) (w:World):(eqGuard f t x y (.slice a n c) (.slice b n' c')).run P w = .ok () w:=by
 unfold eqGuard;cases f<;>simp
theorem WP (hm:BR B S w0 m) (hs:CX B S m ρ a.eval) {ne:Bool} {x':AP} (h:BB P num o.op (.oi ne x')=true) {b:Bool} (hx : ∀ v,CV B S m (ρ x') v -> ∃ ad n c,v = .slice ad n c/\ad.isNone=b) :
  CY B S w0 P o a m (.val (.bool (xor b ne))):=by
 obtain ⟨t,x,u,e,k9,hu,h1⟩:=Qe h;obtain ⟨ad,n,c,ex,hb⟩:=hx _ (hs x x' h1);refine EI hm (u := .bool (xor b ne)) ?_ (XB _);have e0:a.eval (.const (.slice none 0 0)) = .slice none 0 0:=rfl;cases ne<;>cases b<;>simp [execOp,k9,ex,e0,Sd,binOp,Sf t ad n c hu,hb]
theorem R5 {v:Value} (h:CV B S m .nil v):v = .slice none 0 0:=by
 cases h with
 | ca h=>cases h with
  | one h=>cases h with
   | rd h=>cases h
   | nil=>rfl
theorem gZ {b:Bool} {v:Value} (h:CV B S m (.bh (.bool b)) v) : ∃ ad c,v = .slice ad 0 c/\ad.isNone=b:=by
 cases h with
 | ca h=>cases h with
  | one h=>cases h with
   | rd h=>cases h with
    | emp b a cap h=>exact ⟨a,cap,rfl,h⟩
theorem yI {l:Bool} {e:List AV} {es:List (List AV)} {v:Value} (h:CV B S m (.sl l (e::es)) v) : ∃ ad n c,v = .slice ad n c/\ad.isNone=false:=by
 cases h with
 | ca h=>cases h with
  | one h=>cases h with
   | rd h=>cases h with
    | sl=>exact ⟨_,_,_,rfl,rfl⟩
theorem yH {s t z off n:Nat} {v:Value} (h:CV B S m (.row s t z off (n+1)) v) : ∃ ad n c,v = .slice ad n c/\ad.isNone=false:=by
 cases h with
 | ca h=>cases h with
  | one h=>cases h with
   | rd h=>cases h
   | row _ _ _ _ _ a cap _ _ _ ha=>exact ⟨_,_,_,rfl,by have:=ha (by omega);cases a<;>simp_all⟩
theorem Mf (hm:BR B S w0 m) (hs:CX B S m ρ a.eval) {tb:List Nat} {x':AP} (h:BB P num o.op (.eu tb x')=true) {k:IntKind} {n:Int} {v:Nat} (hx:ρ x' = .int k n) (h0:0<=n) (hv:tb[n.toNat]? = some v) :
  CY B S w0 P o a m (.val (.int .u8 v)):=by
 obtain ⟨t,s,i,k9,hu,Bk,h1⟩:=Qk h;have ex:=HX (hx ▸ hs i x' h1);have hb : ∃ b:UInt8,s[n.toNat]? = some b/\b.toNat=v:=by
  rw[<-Bk,List.getElem?_map]at hv;cases hg:s.data.toList[n.toNat]? with
  | none=>simp [hg]at hv
  | some b =>
   simp only[hg,Option.map_some,Option.some.injEq]at hv;refine ⟨b,?_,hv⟩;have l7:n.toNat<s.size:=by
    have:=(zS hg).1
    simpa using this
   rw[getElem?_pos s n.toNat l7];congr 1;have:=(zS hg).2
   rw[<-this];rfl
 obtain ⟨b,wh,q7⟩:=hb;refine EI hm (u := .int .u8 v) ?_ (PK _ _);have e0:a.eval (.const (.string s)) = .string s:=rfl;simp [execOp,k9,ex,e0,Instr.index,asIntOf,run_underlying hu,h0,wh,q7]
theorem Uc {x c:AV} {v:Value} (h:CV B S m x v) (hc:GP x=some c):CC B S m c v:=by
 cases h with
 | any=>simp [GP]at hc
 | j4=>simp [GP]at hc
 | ca h=>cases h with
  | agg=>simp [GP]at hc
  | fn=>simp [GP]at hc
  | po=>simp [GP]at hc
  | one h =>
   have:c=x:=by
    cases h with
    | rd h=>cases h<;>simp [GP]at hc<;>exact hc.symm
    | _=>simp [GP]at hc;exact hc.symm
   subst this;exact h
theorem jG (hs:CX B S m ρ a.eval) : ∀ {xs:List Operand} {o3:List AP} {cs:List AV},D8 xs o3=true->o3.mapM (λ x=>GP (ρ x))=some cs->CL B S m cs (xs.map a.eval)
 | [],[],cs,_,h=>by
  simp at h;subst h;exact ⟨rfl,λ j c v h=>by simp at h⟩
 | x::r,y::l,cs,h,hc=>by
  simp only[D8,Bool.and_eq_true]at h;simp only[List.mapM_cons,Option.bind_eq_bind,Option.pure_def]at hc;cases h1:GP (ρ y) with
  | none=>simp [h1]at hc
  | some c =>
   cases h2:l.mapM (λ x=>GP (ρ x)) with
   | none=>simp [h1,h2]at hc
   | some dc =>
    simp [h1,h2]at hc;subst hc;have ih:=jG hs h.2 h2;refine ⟨by simpa using ih.1,λ j c' v hj hv => ?_⟩;cases j with
    | zero =>
     simp at hj hv;subst hj hv;exact Uc (hs x y h.1) h1
    | succ j=>exact ih.2 j c' v (by simpa using hj) (by simpa using hv)
 | [],_::_,_,h,_=>by simp [D8]at h
 | _::_,[],_,h,_=>by simp [D8]at h
theorem Mb (hm:BR B S w0 m) (hs:CX B S m ρ a.eval) {p:Bool} {f:Nat} {o3:List AP} (h:BB P num o.op (.mh p f o3)=true) {cs:List AV} (hc:o3.mapM (λ x=>GP (ρ x))=some cs) :
  CY B S w0 P o a m (.val (.fn (p&&cs.isEmpty) f (num f) cs)):=by
 obtain ⟨first,xs,k9,rfl,he⟩:=Qh h;have j6:=jG hs he hc;have eo:(xs.map a.eval)=(xs.toList.map a.eval).toArray:=by cases xs;simp
 refine EI hm (u := .func (.func (num f)) #[] (xs.toList.map a.eval).toArray) ?_ (.ca (.fn (p&&cs.isEmpty) f (num f) cs _ (λ h=>by simpa using (Bool.and_eq_true _ _ ▸ h:p=true/\cs.isEmpty=true).2) j6));simp [execOp,k9,Instr.makeFunc,eo]
end
end Go.e9

namespace Go.e9
open Go.RowKit
section
variable {B:Nat} {S:Nat->Prop} {w0:World} {m:M}
variable {P:Program} {num:Nat->Nat} {o:Oper} {a:Act} {ρ:AP->AV}
theorem RZ {cs:List AV} {vs:List Value} (h:CL B S m cs vs) {j:Nat} {c:AV} (hj:cs[j]? = some c) : ∃ u,vs[j]? = some u/\CC B S m c u:=by
 have l7:j<cs.length:=(zS hj).1;have qh:j<vs.length:=by rw[<-h.1];exact l7
 exact ⟨vs[j],zE qh,h.2 j c _ hj (zE qh)⟩
theorem Tu {s:Nat} {b:DZ} {w':World} {g:Nat}:CV B S ⟨j5 m s (some g),m.own.put s ((m.own s).new b),w'⟩ (.ptr s (m.own.g8 s) 0 0) (.pointer (some ⟨g,0,none⟩)):=by
 refine .ca (.one (.ptr s (m.own.g8 s) 0 0 ⟨g,0,none⟩ ?_ λ b' k8=>⟨g,?_,by simp⟩))
 ·show _<AH.g8 _ s
  rw[J7];simp
 ·simp [j5]
theorem iM (hm:BR B S w0 m) (s:Nat) (cs:List AV) (vs:Array Value) (e:TypeId) (hc:CL B S m cs vs.toList) (h:(execOp a.eval o).run P m.w = .ok (.value (.pointer (some ⟨m.w.heap.size,0,none⟩))) (m.w.alloc (.cells vs e))) :
  CY B S w0 P o a m (.new s ⟨cs.length,[cs]⟩ (λ t => .ptr s t 0 0)):=by
 intro K Q hK;obtain ⟨h1,h2⟩:=Y3 hm s ⟨cs.length,[cs]⟩ vs e (by simp) (λ i dc hi j c hj=>by
  cases i with
  | zero =>
   obtain rfl:cs=dc:=by simpa using hi
   obtain ⟨u,hu,y7⟩:=RZ hc hj;exact ⟨u,by simpa using hu,y7⟩
  | succ i=>simp at hi)
 exact O4 h (hK _ ⟨j5 m s (some m.w.heap.size),m.own.put s ((m.own s).new ⟨cs.length,[cs]⟩),m.w.alloc (.cells vs e)⟩ rfl h1 h2 Tu)
theorem zG (hm:BR B S w0 m) (hs:CX B S m ρ a.eval) {s:Nat} {x':AP} (h:BB P num o.op (.box s x')=true) {cs:List AV} (hc:cellsOf (ρ x')=some cs) :
  CY B S w0 P o a m (.new s ⟨cs.length,[cs]⟩ (λ t => .ptr s t 0 0)):=by
 obtain ⟨t,x,k9,h1⟩:=Rt h;exact iM hm s cs (a.eval x).cells t (WJ (hs x x' h1) hc) (by simp [execOp,k9,Instr.box,newVar,newRow])
theorem zC (hm:BR B S w0 m) {s:Nat} {z:List AV} (h:BB P num o.op (.alloc s z)=true):CY B S w0 P o a m (.new s ⟨z.length,[z]⟩ (λ t => .ptr s t 0 0)):=by
 obtain ⟨t,k9,h1⟩:=Rq h;obtain ⟨i,v,hi,hz,he⟩:=dU h1;exact iM hm s z v.cells t (R9 he) (by simp [execOp,k9,Instr.alloc,zeroValue,typeInfo,hi,hz,newVar,newRow])
theorem aN (off:Nat) : ∀ (vs:List Value) (k:Nat) (cells:Array Value),off+k+vs.length<=cells.size ->
  ((vs.zipIdx k).foldl (λ cs (x:Value × Nat)=>cs.setIfInBounds (off+x.2) x.1) cells).toList=cells.toList.take (off+k)++vs++cells.toList.drop (off+k+vs.length)
 | [],k,cells,_=>by simp
 | v::r,k,cells,h=>by
  simp only[List.length_cons]at h;rw[List.zipIdx_cons,List.foldl_cons,aN off r (k+1) _ (by simp;omega)];simp only[Array.toList_setIfInBounds,List.length_cons];apply List.ext_getElem?;intro q;have e1:(cells.toList.set (off+k) v).drop (off+(k+1)+r.length)=cells.toList.drop (off+k+(r.length+1)):=by
   rw[show off+(k+1)+r.length=off+k+(r.length+1) by omega];exact List.drop_set_of_lt (by omega)
  have e2:(cells.toList.set (off+k) v).take (off+(k+1))=cells.toList.take (off+k)++[v]:=by
   rw[show off+(k+1)=off+k+1 by omega,List.take_succ_eq_append_getElem (by simp;omega)];simp [List.take_set_of_le]
  rw[e1,e2];simp
theorem aG (place:Nat->Option (Nat × Nat)) (hs:CX B S m ρ a.eval) : ∀ (ps:List (Nat × Operand)) (db:List (Nat × Nat × AP)) (cs dc:List AV) (vs:Array Value),QZ place ps db=true->CL B S m cs vs.toList ->
  fill cs (db.map λ p=>(p.1,p.2.1,ρ p.2.2))=some dc -> ∃ ax,Instr.fill place vs (ps.map λ p=>(p.1,a.eval p.2))=some ax/\CL B S m dc ax.toList
 | [],[],cs,dc,vs,_,hc,hf=>by
  simp [fill]at hf;subst hf;exact ⟨vs,rfl,hc⟩
 | (i,x)::r,(off,n,y)::l,cs,dc,vs,hp,hc,hf=>by
  simp only[QZ,Bool.and_eq_true,beq_iff_eq]at hp;obtain ⟨⟨Fu,yn⟩,Zu⟩:=hp;simp only[List.map_cons,fill]at hf;cases hcell:cellsOf (ρ y) with
  | none=>simp [hcell]at hf
  | some us =>
   simp only[hcell]at hf;split at hf
   ·rename_i hn
    obtain ⟨Zp,Fo⟩:=hn;have dv:=WJ (hs x y yn) hcell;have v5:(a.eval x).cells.size=n:=by rw[<-Zp,dv.1];simp
    have xd:off+(a.eval x).cells.size<=vs.size:=by rw[v5];have:=hc.1;simp at this;omega
    have qe:=aN off (a.eval x).cells.toList 0 vs (by simpa using xd);have Bi:Instr.fill place vs (((i,x)::r).map λ p=>(p.1,a.eval p.2))=Instr.fill place ((a.eval x).cells.zipIdx.foldl (λ cs (c,j)=>cs.setIfInBounds (off+j) c) vs) (r.map λ p=>(p.1,a.eval p.2)):=by
     simp only[List.map_cons,Instr.fill,Fu];rw[if_neg (by simp;omega)]
    rw[Bi];refine aG place hs r l (splice cs off us) dc _ Zu ?_ hf;have hz:((a.eval x).cells.zipIdx.foldl (λ cs (c,j)=>cs.setIfInBounds (off+j) c) vs).toList=vs.toList.take off++(a.eval x).cells.toList++vs.toList.drop (off+(a.eval x).cells.toList.length):=by
     rw[<-Array.foldl_toList];simpa using qe
    rw[hz];unfold splice;refine ⟨?_,λ j c v hj hv => ?_⟩
    ·have:=hc.1;have:=dv.1;simp at *;omega
    ·have kj:=hc.1
     have iv:=dv.1;simp only[Array.length_toList]at kj iv;rw[List.getElem?_append]at hj hv;simp only[List.length_append,List.length_take,Array.length_toList]at hj hv;rw[List.getElem?_append]at hj hv;simp only[List.length_take,Array.length_toList]at hj hv;have gf:min off cs.length=off:=by omega
     have fc:min off vs.size=off:=by omega
     rw[gf]at hj;rw[fc]at hv;rw[<-iv]at hv;split at hj
     ·rename_i h1
      rw[if_pos h1]at hv;split at hj
      ·rename_i h2
       rw[if_pos h2]at hv;rw[List.getElem?_take]at hj hv;rw[if_pos h2]at hj hv;exact hc.2 j c v hj hv
      ·rename_i h2
       rw[if_neg h2]at hv;exact dv.2 _ c v hj hv
     ·rename_i h1
      rw[if_neg h1]at hv;rw[List.getElem?_drop]at hj hv;exact hc.2 _ c v hj hv
   ·cases hf
 | [],_::_,_,_,_,hp,_,_=>by simp [QZ]at hp
 | _::_,[],_,_,_,hp,_,_=>by simp [QZ]at hp
theorem zI (hm:BR B S w0 m) (hs:CX B S m ρ a.eval) {z:List AV} {db:List (Nat × Nat × AP)} (h:BB P num o.op (.build z db)=true) {cs:List AV} (hf:fill z (db.map λ p=>(p.1,p.2.1,ρ p.2.2))=some cs) :
  CY B S w0 P o a m (.val (.agg cs)):=by
 obtain ⟨t,ps,k9,h1,h2⟩:=Rv h;obtain ⟨i,v,hi,hz,he⟩:=dU h1;have key : ∃ ax,P.built t (ps.map λ p=>(p.1,a.eval p.2)).toList=some ax/\CL B S m cs ax.toList:=by
  unfold ZA at h2;unfold Program.built;split at h2
  ·rename_i fs hu
   split at h2
   ·rename_i places hp
    obtain ⟨ax,h3,h4⟩:=aG _ hs ps.toList db z cs v.cells h2 (R9 he) hf;refine ⟨ax,?_,h4⟩;simp only[hi,hu,hz,hp,Array.toList_map];exact h3
   ·cases h2
  ·rename_i n e hu
   split at h2
   ·rename_i ie Ff
    obtain ⟨ax,h3,h4⟩:=aG _ hs ps.toList db z cs v.cells h2 (R9 he) hf;refine ⟨ax,?_,h4⟩;simp only[hi,hu,hz,Ff,Array.toList_map];exact h3
   ·cases h2
  ·cases h2
 obtain ⟨ax,h3,h4⟩:=key;refine EI hm (u := .agg ax) ?_ (.ca (by simpa using CA.agg cs ax.toList h4));simp only[execOp,k9,Sem.run_bind];rw[run_build m.w t _ ax h3];rfl
theorem lF (size:Nat) (hs:CX B S m ρ a.eval) : ∀ (ps:List (Nat × Operand)) (db:List AP) (k:Nat) (es:List (List AV)) (vs:Array Value),QJ k ps db=true->db.mapM (λ x=>cellsOf (ρ x))=some es->(∀ e∈es,e.length=size)->vs.size=(k+db.length)*size ->
  ∃ ax,Instr.fill (λ i=>some (i*size,size)) vs (ps.map λ p=>(p.1,a.eval p.2))=some ax/\ax.size=vs.size/\(∀ q,q<k*size->ax[q]? = vs[q]?) /\ ∀ i cs,es[i]? = some cs -> ∀ j c,cs[j]? = some c -> ∃ u,ax[(k+i)*size+j]? = some u/\CC B S m c u
 | [],[],k,es,vs,_,gb,_,_=>by
  simp at gb;subst gb;exact ⟨vs,rfl,rfl,λ_ _=>rfl,λ i cs hi=>by simp at hi⟩
 | (i,x)::r,y::l,k,es,vs,he,gb,hz,hv=>by
  simp only[QJ,Bool.and_eq_true,beq_iff_eq]at he;obtain ⟨⟨rfl,h1⟩,h2⟩:=he;simp only[List.mapM_cons,Option.bind_eq_bind,Option.pure_def]at gb;cases hcell:cellsOf (ρ y) with
  | none=>simp [hcell]at gb
  | some us =>
   cases ct:l.mapM (λ x=>cellsOf (ρ x)) with
   | none=>simp [hcell,ct]at gb
   | some es' =>
    simp [hcell,ct]at gb;subst gb;have dv:=WJ (hs x y h1) hcell;have Jh:us.length=size:=hz us (by simp);have v5:(a.eval x).cells.size=size:=by rw[<-Jh,dv.1];simp
    simp only[List.length_cons]at hv;have hle:i*size+size<=vs.size:=by rw[hv,show i+(l.length+1)=i+1+l.length by omega,Nat.add_mul,Nat.add_mul];omega
    have qe:=aN (i*size) (a.eval x).cells.toList 0 vs (by simp [v5];omega);generalize Bm:(a.eval x).cells.zipIdx.foldl (λ cs (c,j)=>cs.setIfInBounds (i*size+j) c) vs=zk;have ig:zk.toList=vs.toList.take (i*size)++(a.eval x).cells.toList++vs.toList.drop (i*size+size):=by
     rw[<-Bm,<-Array.foldl_toList];simpa [v5] using qe
    have yw:zk.size=vs.size:=by
     have:=congrArg List.length ig
     simp [v5]at this;omega
    obtain ⟨ax,h3,h4,h5,h6⟩:=lF size hs r l (i+1) es' zk h2 ct (λ e he=>hz e (by simp [he])) (by rw[yw,hv];congr 1;omega);refine ⟨ax,?_,h4.trans yw,λ q hq => ?_,λ i' cs q5 j c hj => ?_⟩
    ·simp only[List.map_cons,Instr.fill]
     rw[if_neg (by simp [v5];omega),Bm];exact h3
    ·rw[h5 q (by rw[Nat.add_mul];omega)]
     have:zk.toList[q]? = vs.toList[q]? := by
      rw[ig,List.append_assoc,List.getElem?_append_left (by simp;omega),List.getElem?_take,if_pos hq]
     simpa using this
    ·cases i' with
     | zero =>
      obtain rfl:us=cs:=by simpa using q5
      obtain ⟨u,hu,y7⟩:=RZ dv hj;have ek:j<size:=by rw[<-Jh];exact (zS hj).1
      refine ⟨u,?_,y7⟩;rw[Nat.add_zero,h5 _ (by rw[Nat.add_mul];omega)];have:zk.toList[i*size+j]? = some u:=by
       rw[ig,List.append_assoc,List.getElem?_append_right (by simp;omega)];simp only[List.length_take,Array.length_toList,show min (i*size) vs.size=i*size by omega,show i*size+j-i*size=j by omega];rw[List.getElem?_append_left (by simp [v5];omega)];exact hu
      simpa using this
     | succ i' =>
      obtain ⟨u,hu,y7⟩:=h6 i' cs (by simpa using q5) j c hj;exact ⟨u,by rw[show i+(i'+1)=i+1+i' by omega];exact hu,y7⟩
 | [],_::_,_,_,_,he,_,_,_=>by simp [QJ]at he
 | _::_,[],_,_,_,he,_,_,_=>by simp [QJ]at he
theorem oH {s z n cap:Nat} {es:List (List AV)} {w':World} {g:Nat} {arr:Array Value} {e:TypeId} (hz:0<z) (hn:n<=cap) (hg:w'.heap[g]? = some (.cells arr e (0,0))) (hc:cap*z<=arr.size) :
  CV B S ⟨j5 m s (some g),m.own.put s ((m.own s).new ⟨z,es⟩),w'⟩ (.row s (m.own.g8 s) z 0 n) (.slice (some ⟨g,0,none⟩) n cap):=by
 refine .ca (.one (.row s (m.own.g8 s) z 0 n _ cap ?_ hz hn (λ_=>rfl) λ b' k8=>⟨?_,.inr ⟨g,arr,e,?_,by simp,hg,by simpa using hc⟩⟩))
 ·show _<AH.g8 _ s
  rw[J7];simp
 ·change AH.get _ s _=some b' at k8
  rw[F4,if_pos ⟨rfl,rfl⟩]at k8;obtain rfl:(⟨z,es⟩:DZ)=b':=by simpa using k8
  rfl
 ·simp [j5]
theorem iQ (hm:BR B S w0 m) (s z n cap:Nat) (es:List (List AV)) (vs:Array Value) (e:TypeId) (bu:0<z) (hn:n<=cap) (v5:cap*z<=vs.size) (hz : ∀ x∈es,x.length=z)
  (hc : ∀ i cs,es[i]? = some cs -> ∀ j c,cs[j]? = some c -> ∃ u,vs[i*z+j]? = some u/\CC B S m c u)
  (h:(execOp a.eval o).run P m.w = .ok (.value (.slice (some ⟨m.w.heap.size,0,none⟩) n cap)) (m.w.alloc (.cells vs e))) :
  CY B S w0 P o a m (.new s ⟨z,es⟩ (λ t => .row s t z 0 n)):=by
 intro K Q hK;obtain ⟨h1,h2⟩:=Y3 hm s ⟨z,es⟩ vs e hz hc;exact O4 h (hK _ ⟨j5 m s (some m.w.heap.size),m.own.put s ((m.own s).new ⟨z,es⟩),m.w.alloc (.cells vs e)⟩ rfl h1 h2 (oH bu hn (heap_alloc_new _ _) v5))
theorem zH (hm:BR B S w0 m) (hs:CX B S m ρ a.eval) {s a8:Nat} {db:List AP} (h:BB P num o.op (.c4 s a8 db)=true) {es:List (List AV)} (gb:db.mapM (λ x=>cellsOf (ρ x))=some es) (hz : ∀ e∈es,e.length=a8) :
  CY B S w0 P o a m (.new s ⟨a8,es⟩ (λ t => .row s t a8 0 es.length)):=by
 obtain ⟨t,n,ps,e,i,k9,hu,hi,v5,h0,hn,Gg,de,hzero⟩:=Ru h;have hlen:es.length=n:=by
  rw[hn];clear h de hzero hn;induction db generalizing es with
  | nil=>simp at gb;subst gb;rfl
  | cons y l ih =>
   simp only[List.mapM_cons,Option.bind_eq_bind,Option.pure_def]at gb;cases hcell:cellsOf (ρ y) with
   | none=>simp [hcell]at gb
   | some us =>
    cases ct:l.mapM (λ x=>cellsOf (ρ x)) with
    | none=>simp [hcell,ct]at gb
    | some es' =>
     simp [hcell,ct]at gb;subst gb;simp [ih ct (λ e he=>hz e (by simp [he]))]
 obtain ⟨zc,Bp⟩ : ∃ zc:Array Value,(n*a8=0/\zc = #[])\/(¬ n*a8=0 /\ ∃ z,i.zero=some z/\zc=z.cells):=by
  by_cases m8:n*a8=0
  ·exact ⟨#[],.inl ⟨m8,rfl⟩⟩
  ·rcases hzero with rz|⟨z,ig,qy⟩
   ·simp [rz]at m8
   ·exact ⟨z.cells,.inr ⟨m8,z,ig,rfl⟩⟩
 have Br:((Array.range (n*a8)).map (zc[· % zc.size]!)).size=n*a8:=by simp
 obtain ⟨ax,h3,h4,_,h6⟩:=lF a8 hs ps.toList db 0 es _ de gb hz (by rw[Br,hn];simp);have q6:(execOp a.eval o).run P m.w = .ok (.value (.slice (some ⟨m.w.heap.size,0,none⟩) n n)) (m.w.alloc (.cells ax e)):=by
  simp only[execOp,k9,Instr.buildSlice,Sem.run_bind,run_underlying hu,Result.andThen_ok,sizeOf,typeInfo,run_program,hi,Sem.run_pure,v5];simp only[show ¬ (n*a8>2^24) from by omega,if_false,Sem.run_bind,Sem.run_pure,Result.andThen_ok];rcases Bp with ⟨rz,rfl⟩|⟨rz,z,ig,rfl⟩
  ·simp only[rz,if_true,Sem.run_bind,Sem.run_pure,Result.andThen_ok,Array.toList_map]
   rw[rz]at h3;rw[h3];rfl
  ·simp only[rz,if_false,Sem.run_bind,Sem.run_pure,Result.andThen_ok,Array.toList_map,zeroValue,typeInfo,run_program,hi,ig]
   rw[h3];rfl
 rw[hlen];exact iQ hm s a8 n n es ax e (Nat.pos_of_ne_zero h0) (Nat.le_refl _) (by rw[h4,Br];exact Nat.le_refl _) hz (λ i cs q5 j c hj=>by simpa using h6 i cs q5 j c hj) q6
end
end Go.e9

namespace Go.e9
open Go.RowKit
section
variable {B:Nat} {S:Nat->Prop} {w0:World} {m:M}
variable {P:Program} {num:Nat->Nat} {o:Oper} {a:Act} {ρ:AP->AV}
theorem WI {x:AV} {v:Value} (h:CV B S m x v) (h1:x ≠ .any) (h2 : ∀ cs,x ≠ .agg cs) (h3 : ∀ cs,x ≠ .j4 cs) (h4 : ∀ p f g cs,x ≠ .fn p f g cs:=by intros;simp):CC B S m x v:=by
 cases h with
 | any=>exact absurd rfl h1
 | j4 as=>exact absurd rfl (h3 as)
 | ca h=>cases h with
  | one h=>exact h
  | agg cs=>exact absurd rfl (h2 cs)
  | fn p f g cs=>exact absurd rfl (h4 p f g cs)
  | po f g cs=>exact absurd rfl (h4 true f g cs)
theorem TS {s t i j:Nat} {v:Value} (h:CV B S m (.ptr s t i j) v) : ∃ ad,v = .pointer (some ad)/\t<m.own.g8 s /\ ∀ b,m.own.get s t=some b -> ∃ g,m.ν s t=some g/\ad=⟨g,i*b.a8+j,none⟩:=by
 cases WI h (by simp) (by simp) (by simp) with
 | rd h=>cases h
 | ptr s t i j ad ht h'=>exact ⟨ad,rfl,ht,h'⟩
theorem ZG {cs:List AV} {v:Value} (h:CV B S m (.s8 cs) v) : ∃ (b o:Nat) (u:Nat->Value) (l:Bool),v = .pointer (some ⟨b,o,none⟩)/\(cs≠[]->safe B S m l b)/\(∀ j c,cs[j]? = some c->m.w.cell? ⟨b,o+j,none⟩=some (u j))/\(∀ j c,cs[j]? = some c->Rd m.w (safe B S m) c (u j)):=by
 cases WI h (by simp) (by simp) (by simp) with
 | rd h=>cases h
 | s8 _ b o u l h1 h2 h3=>exact ⟨b,o,u,l,rfl,h1,h2,h3⟩
theorem R6 {s t z off len:Nat} {v:Value} (h:CV B S m (.row s t z off len) v) : ∃ (ad:Option Addr) (cap:Nat),v = .slice ad len cap/\t<m.own.g8 s/\0<z/\len<=cap/\(0<len->ad.isSome=true) /\
  ∀ b,m.own.get s t=some b->b.a8=z/\((len=0/\cap=0) \/ ∃ g arr e,m.ν s t=some g/\ad=some ⟨g,off*z,none⟩/\m.w.heap[g]? = some (.cells arr e (0,0))/\(off+cap)*z<=arr.size):=by
 cases WI h (by simp) (by simp) (by simp) with
 | rd h=>cases h
 | row s t z off len ad cap ht bu lk ha h'=>exact ⟨ad,cap,rfl,ht,bu,lk,ha,h'⟩
theorem WK {l:Bool} {es:List (List AV)} {v:Value} (h:CV B S m (.sl l es) v):Rd m.w (safe B S m) (.sl l es) v:=by
 cases WI h (by simp) (by simp) (by simp) with
 | rd h=>exact h
theorem zW (hm:BR B S w0 m) (hs:CX B S m ρ a.eval) {x':AP} {off:Nat} (h:BB P num o.op (.a5 x' off)=true) {s t i j:Nat} (hx:ρ x' = .ptr s t i j):CY B S w0 P o a m (.val (.ptr s t i (j+off))):=by
 obtain ⟨ty,x,f,fs,fd,inf,k9,h1,hu,hf,ho,hi,v5⟩:=mM h;obtain ⟨ad,hv,ht,hb⟩:=TS (hx ▸ hs x x' h1);refine EI hm (u := .pointer (some (ad.add off))) ?_ (.ca (.one (.ptr s t i (j+off) _ ht λ b k8 => ?_)))
 ·simp [execOp,k9,hv,Instr.fieldAt,run_underlying hu,hf,Instr.sureAddr,fieldPlace,sizeOf,typeInfo,hi,v5,ho]
 ·obtain ⟨g,hg,rfl⟩:=hb b k8
  exact ⟨g,hg,by rw[G5];simp;omega⟩
theorem zV (hm:BR B S w0 m) (hs:CX B S m ρ a.eval) {x':AP} {off:Nat} (h:BB P num o.op (.a5 x' off)=true) {cs:List AV} (hx:ρ x' = .s8 cs):CY B S w0 P o a m (.val (.s8 (cs.drop off))):=by
 obtain ⟨ty,x,f,fs,fd,inf,k9,h1,hu,hf,ho,hi,v5⟩:=mM h;obtain ⟨b,ob,u,l,hv,hR,hc,hr⟩:=ZG (hx ▸ hs x x' h1);refine EI hm (u := .pointer (some ⟨b,ob+off,none⟩)) ?_ (.ca (.one (.s8 _ b (ob+off) (λ j=>u (off+j)) l (λ m8=>hR (λ e=>m8 (by simp [e]))) (λ j c hj => ?_) (λ j c hj => ?_))))
 ·simp [execOp,k9,hv,Instr.fieldAt,run_underlying hu,hf,Instr.sureAddr,fieldPlace,sizeOf,typeInfo,hi,v5,ho,G5]
 ·rw[List.getElem?_drop]at hj
  rw[Nat.add_assoc];exact hc _ c hj
 ·rw[List.getElem?_drop]at hj
  exact hr _ c hj
theorem XP {agg:Bool} {cs:List AV} {v:AV} (h:JY agg cs=some v) {vs:List Value} (hc:CL B S m cs vs):CV B S m v (if agg then .agg vs.toArray else vs.getD 0 undef)/\(agg=false->vs.length=1):=by
 unfold JY at h;cases agg with
 | true =>
  obtain rfl:AV.agg cs=v:=by simpa using h
  exact ⟨.ca (.agg cs vs hc),by simp⟩
 | false =>
  simp only[Bool.false_eq_true,if_false]at h;split at h
  ·rename_i c
   obtain rfl:c=v:=by simpa using h
   obtain ⟨u,hu,y7⟩:=RZ hc (j:=0) (c:=c) rfl;refine ⟨?_,λ_=>by rw[<-hc.1];rfl⟩;simp only[Bool.false_eq_true,if_false,List.getD,hu,Option.getD_some];exact .ca (.one y7)
  ·cases h
theorem Si (t:TypeId) (agg:Bool) (inf:TypeInfo) (fv : ∀ w,(isAgg t).run P w = .ok agg w) (hi:P.info? t=some inf) (vs:List Value) (off n:Nat) (hn:inf.size=n) (hle:off+n<=vs.length) (h1:agg=false->n=1) (w:World) :
  (Go.part t vs.toArray off).run P w = .ok (if agg then .agg ((vs.drop off).take n).toArray else ((vs.drop off).take n).getD 0 undef) w:=by
 unfold Go.part;rw[Sem.run_bind,fv w];cases agg with
 | true=>simp [sizeOf,typeInfo,hi,hn,List.extract_eq_take_drop]
 | false =>
  have l7:off<vs.length:=by have:=h1 rfl;omega
  simp [l7,h1 rfl]
theorem zX (hm:BR B S w0 m) (hs:CX B S m ρ a.eval) {x':AP} {off n:Nat} {agg:Bool} (h:BB P num o.op (.lg x' off n agg)=true) {cs ds:List AV} {v:AV} (hx:ρ x' = .agg cs) (hp:part cs off n=some ds) (hv:JY agg ds=some v) :
  CY B S w0 P o a m (.val v):=by
 obtain ⟨ty,x,f,fs,fd,inf,k9,h1,hu,hf,ho,hi,v5,fv,h0⟩:=Sc h;obtain ⟨vs,bf,j6⟩:=yE (hx ▸ hs x x' h1);unfold e9.part at hp;split at hp
 ·rename_i hle
  obtain rfl:(cs.drop off).take n=ds:=by simpa using hp
  obtain ⟨u7,jj⟩:=XP hv (xF j6 off n);have hl:=j6.1;have lh:agg=false->n=1:=λ e=>by have:=jj e;simp at this;omega
  refine EI hm ?_ u7;simp only[execOp,k9,Sem.run_bind,Instr.field,run_underlying hu,Result.andThen_ok,hf,bf,asAgg,Sem.run_pure,ho];rw[Si fd.type agg inf fv hi vs off n v5 (by omega) lh];rfl
 ·cases hp
theorem zY (hm:BR B S w0 m) (hs:CX B S m ρ a.eval) {len a8:Nat} {x' i':AP} (h:BB P num o.op (.a7 (some len) a8 x' i')=true) {k:IntKind} {n:Int} {s t i0 j:Nat} (q5:ρ i' = .int k n) (hx:ρ x' = .ptr s t i0 j) (h0:0<=n) (hn:n<len) :
  CY B S w0 P o a m (.val (.ptr s t i0 (j+n.toNat*a8))):=by
 obtain ⟨ty,x,i,e,inf,k9,h1,h2,hi,v5,dh⟩:=W7 h;rcases dh with ⟨om,hl,hu,l7⟩|⟨hl,_⟩
 ·obtain rfl:len=om:=by simpa using hl
  obtain ⟨ad,hv,ht,hb⟩:=TS (hx ▸ hs x x' h1);have rk:=HX (q5 ▸ hs i i' h2);refine EI hm (u := .pointer (some (ad.add (n.toNat*a8)))) ?_ (.ca (.one (.ptr s t i0 (j+n.toNat*a8) _ ht λ b k8 => ?_)))
  ·simp [execOp,k9,hv,rk,Instr.indexAt,asIntOf,run_underlying hu,Instr.sureAddr,sizeOf,typeInfo,hi,v5,h0,hn]
  ·obtain ⟨g,hg,rfl⟩:=hb b k8
   exact ⟨g,hg,by rw[G5];simp;omega⟩
 ·cases hl
theorem zZ (hm:BR B S w0 m) (hs:CX B S m ρ a.eval) {len a8:Nat} {x' i':AP} (h:BB P num o.op (.a7 (some len) a8 x' i')=true) {k:IntKind} {n:Int} {cs:List AV} (q5:ρ i' = .int k n) (hx:ρ x' = .s8 cs) (h0:0<=n) (hn:n<len) :
  CY B S w0 P o a m (.val (.s8 (cs.drop (n.toNat*a8)))):=by
 obtain ⟨ty,x,i,e,inf,k9,h1,h2,hi,v5,dh⟩:=W7 h;rcases dh with ⟨om,hl,hu,l7⟩|⟨hl,_⟩
 ·obtain rfl:len=om:=by simpa using hl
  obtain ⟨b,ob,u,l,hv,hR,hc,hr⟩:=ZG (hx ▸ hs x x' h1);have rk:=HX (q5 ▸ hs i i' h2);refine EI hm (u := .pointer (some ⟨b,ob+n.toNat*a8,none⟩)) ?_ (.ca (.one (.s8 _ b (ob+n.toNat*a8) (λ j=>u (n.toNat*a8+j)) l (λ m8=>hR (λ e=>m8 (by simp [e]))) (λ j c hj => ?_) (λ j c hj => ?_))))
  ·simp [execOp,k9,hv,rk,Instr.indexAt,asIntOf,run_underlying hu,Instr.sureAddr,sizeOf,typeInfo,hi,v5,h0,hn,G5]
  ·rw[List.getElem?_drop]at hj
   rw[Nat.add_assoc];exact hc _ c hj
  ·rw[List.getElem?_drop]at hj
   exact hr _ c hj
 ·cases hl
theorem pS (ty e:TypeId) (inf:TypeInfo) (hu:P.underlying ty=some (.slice e)) (hi:P.info? e=some inf) (ad:Addr) (len cap:Nat) (k:IntKind) (n:Int) (h0:0<=n) (hn:n<len) (w:World) :
  (Instr.indexAt ty (.slice (some ad) len cap) (.int k n)).run P w = .ok (.pointer (some (ad.add (n.toNat*inf.size)))) w:=by
 simp [Instr.indexAt,asIntOf,run_underlying hu,sizeOf,typeInfo,hi,h0,hn]
theorem Lv (hm:BR B S w0 m) (hs:CX B S m ρ a.eval) {a8:Nat} {x' i':AP} (h:BB P num o.op (.a7 none a8 x' i')=true) {k:IntKind} {n:Int} {s t z off len:Nat} (q5:ρ i' = .int k n) (hx:ρ x' = .row s t z off len) (h0:0<=n) (hn:n<len) (hz:z=a8) :
  CY B S w0 P o a m (.val (.ptr s t (off+n.toNat) 0)):=by
 obtain ⟨ty,x,i,e,inf,k9,h1,h2,hi,v5,dh⟩:=W7 h;rcases dh with ⟨_,hl,_⟩|⟨_,hu,_⟩
 ·cases hl
 ·obtain ⟨ad,cap,hv,ht,bu,lk,ha,hb⟩:=R6 (hx ▸ hs x x' h1)
  have rk:=HX (q5 ▸ hs i i' h2);obtain ⟨xx,rfl⟩:=Option.isSome_iff_exists.1 (ha (by omega));refine EI hm (u := .pointer (some (xx.add (n.toNat*a8)))) ?_ (.ca (.one (.ptr s t (off+n.toNat) 0 _ ht λ b k8 => ?_)))
  ·simp only[execOp,k9,hv,rk,Sem.run_bind]
   rw[pS ty e inf hu hi xx len cap k n h0 hn,v5];rfl
  ·obtain ⟨im,dh⟩:=hb b k8
   rcases dh with ⟨rl,_⟩|⟨g,arr,e',hg,jc,_,_⟩
   ·omega
   ·obtain rfl:xx=⟨g,off*z,none⟩:=by simpa using jc
    exact ⟨g,hg,by rw[G5,im,<-hz,Nat.add_mul];rfl⟩
theorem Lw (hm:BR B S w0 m) (hs:CX B S m ρ a.eval) {a8:Nat} {x' i':AP} (h:BB P num o.op (.a7 none a8 x' i')=true) {k:IntKind} {n:Int} {l:Bool} {es:List (List AV)} {cs:List AV} (q5:ρ i' = .int k n) (hx:ρ x' = .sl l es) (h0:0<=n) (hn:es[n.toNat]? = some cs) (hz:cs.length=a8) :
  CY B S w0 P o a m (.val (.s8 cs)):=by
 obtain ⟨ty,x,i,e,inf,k9,h1,h2,hi,v5,dh⟩:=W7 h;rcases dh with ⟨_,hl,_⟩|⟨_,hu,_⟩
 ·cases hl
 ·have jt:=WK (hx ▸ hs x x' h1)
  have rk:=HX (q5 ▸ hs i i' h2);have l7:n.toNat<es.length:=(zS hn).1;generalize bf:a.eval x=v at jt;cases jt with
  | gn=>simp at l7
  | sl _ _ b ob u5 cap u m8 hp hR aw gj hc hr =>
   have Bq:u5=a8:=by
    rw[<-hz];exact (gj cs (zM hn)).symm
   subst Bq;refine EI hm (u := .pointer (some ⟨b,ob+n.toNat*u5,none⟩)) ?_ (.ca (.one (.s8 _ b (ob+n.toNat*u5) (u n.toNat) l (λ_=>hR) (λ j c hj => ?_) (λ j c hj=>hr _ cs hn j c hj))))
   ·simp only[execOp,k9,bf,rk,Sem.run_bind]
    rw[pS ty e inf hu hi ⟨b,ob,none⟩ es.length cap k n h0 (by omega),v5,G5];rfl
   ·rw[Nat.add_assoc]
    exact hc _ cs hn j c hj
end
end Go.e9

namespace Go.e9
open Go.RowKit
section
variable {B:Nat} {S:Nat->Prop} {w0:World} {m:M}
variable {P:Program} {num:Nat->Nat} {o:Oper} {a:Act} {ρ:AP->AV}
theorem cS (t:TypeId) (agg:Bool) (n:Nat) (fv : ∀ w,(isAgg t).run P w = .ok agg w) (hn:if agg then ∃ i,P.info? t=some i/\i.size=n else n=1) (ad:Addr) (vs:List Value) (hl:vs.length=n) (w:World)
  (hc : ∀ q v,vs[q]? = some v->w.cell? (ad.add q)=some v):(Instr.loadAt t (.pointer (some ad))).run P w = .ok (if agg then .agg vs.toArray else vs.getD 0 undef) w:=by
 unfold Instr.loadAt loadVar;simp only[Instr.sureAddr,Sem.run_bind,Sem.run_pure,Result.andThen_ok,fv w];cases agg with
 | true =>
  simp only[if_true]at hn;obtain ⟨i,hi,hs⟩:=hn;have:=run_loadCells_list (P:=P) w ad vs hc
  simp [sizeOf,typeInfo,hi,hs,<-hl,this]
 | false =>
  simp only[Bool.false_eq_true,if_false]at hn ⊢;have l7:0<vs.length:=by omega
  have h0:=hc 0 vs[0] (zE l7);have rz:w.cell? ad=some vs[0]:=by simpa [Addr.add] using h0
  simp [load,Sem.run,rz,l7]
theorem oY (hm:BR B S w0 m) {s t i j n:Nat} {cs:List AV} (h:m.own.nc s t i j n=some cs) : ∃ b g arr e,m.own.get s t=some b/\(0<n->m.ν s t=some g/\m.w.heap[g]? = some (.cells arr e (0,0))) /\
  ∃ vs:List Value,vs.length=n/\CL B S m cs vs /\ ∀ q v,vs[q]? = some v->arr[i*b.a8+j+q]? = some v:=by
 unfold AH.nc at h;cases hb:m.own.get s t with
 | none=>simp [hb]at h
 | some b =>
  simp only[hb]at h;cases he:b.es[i]? with
  | none=>simp [he]at h
  | some ds =>
   simp only[he,part]at h;split at h
   ·rename_i hle
    obtain rfl:(ds.drop j).take n=cs:=by simpa using h
    obtain ⟨hz,bt⟩:=hm.e6 s t b hb;cases hν:m.ν s t with
    | none =>
     rw[hν]at bt;rw[bt]at he;simp at he
    | some g =>
     rw[hν]at bt;obtain ⟨hB,arr,e,hh,y7⟩:=bt;have v5 : ∀ q,q<n -> ∃ u,arr[i*b.a8+j+q]? = some u:=λ q hq=>by
      have l7:j+q<ds.length:=by omega
      obtain ⟨u,hu,_⟩:=y7 i ds he (j+q) ds[j+q] (zE l7);exact ⟨u,by rw[<-hu];congr 1;omega⟩
     refine ⟨b,g,arr,e,rfl,λ_=>⟨rfl,hh⟩,(arr.toList.drop (i*b.a8+j)).take n,?_,⟨?_,?_⟩,?_⟩
     ·rw[List.length_take,List.length_drop]
      rcases Nat.eq_zero_or_pos n with h0|h0
      ·omega
      ·obtain ⟨u,hu⟩:=v5 (n-1) (by omega)
       have:=(Array.getElem?_eq_some_iff.1 hu).1
       simp;omega
     ·rw[List.length_take,List.length_take,List.length_drop,List.length_drop]
      rcases Nat.eq_zero_or_pos n with h0|h0
      ·omega
      ·obtain ⟨u,hu⟩:=v5 (n-1) (by omega)
       have:=(Array.getElem?_eq_some_iff.1 hu).1
       simp;omega
     ·intro q c v hq hv
      rw[List.getElem?_take]at hq hv;split at hq
      ·rename_i Bb
       rw[if_pos Bb]at hv;rw[List.getElem?_drop]at hq hv;obtain ⟨u,hu,hc⟩:=y7 i ds he (j+q) c hq;have:some u=some v:=by
        rw[<-hu,<-hv];simp only[Array.getElem?_toList];congr 1;omega
       obtain rfl:u=v:=by simpa using this
       exact hc
      ·cases hq
     ·intro q v hv
      rw[List.getElem?_take]at hv;split at hv
      ·rw[List.getElem?_drop]at hv
       simpa using hv
      ·cases hv
   ·cases h
theorem WB {w:World} {g p:Nat} {arr:Array Value} {e:TypeId} (h:w.heap[g]? = some (.cells arr e (0,0))):w.cell? ⟨g,p,none⟩=arr[p]? := by
 simp [World.cell?,h]
theorem Ly (hm:BR B S w0 m) (hs:CX B S m ρ a.eval) {agg:Bool} {n:Nat} {x':AP} (h:BB P num o.op (.ld agg n x')=true) {s t i j:Nat} {cs:List AV} {v:AV} (hx:ρ x' = .ptr s t i j) (hl:m.own.nc s t i j n=some cs) (hv:JY agg cs=some v) :
  CY B S w0 P o a m (.val v):=by
 obtain ⟨ty,x,k9,h1,fv,hn⟩:=mN h;obtain ⟨ad,bf,ht,hb⟩:=TS (hx ▸ hs x x' h1);obtain ⟨b,g,arr,e,o4,hg,vs,pd,j6,fe⟩:=oY hm hl;obtain ⟨u7,_⟩:=XP hv j6;refine EI hm ?_ u7;simp only[execOp,k9,Sem.run_bind,bf];rw[cS ty agg n fv hn ad vs pd m.w (λ q u hq => ?_)]
 ·rfl
 ·have l7:q<vs.length:=(zS hq).1
  obtain ⟨wy,iu⟩:=hg (by omega);obtain ⟨g',df,rfl⟩:=hb b o4;obtain rfl:g=g':=by rw[wy]at df;simpa using df
  rw[G5,WB iu];exact fe q u hq
theorem Lx (hm:BR B S w0 m) (hs:CX B S m ρ a.eval) {agg:Bool} {n:Nat} {x':AP} (h:BB P num o.op (.ld agg n x')=true) {cs ds:List AV} {v:AV} (hx:ρ x' = .s8 cs) (hl:part cs 0 n=some ds) (hv:JY agg ds=some v) :
  CY B S w0 P o a m (.val v):=by
 obtain ⟨ty,x,k9,h1,fv,hn⟩:=mN h;obtain ⟨b,ob,u,l,bf,hR,hc,hr⟩:=ZG (hx ▸ hs x x' h1);unfold e9.part at hl;split at hl
 ·rename_i hle
  obtain rfl:(cs.drop 0).take n=ds:=by simpa using hl
  have j6:CL B S m ((cs.drop 0).take n) ((List.range n).map u):=by
   refine ⟨by simp;omega,λ q c v' hq lu => ?_⟩;simp only[List.drop_zero,List.getElem?_take]at hq;split at hq
   ·rename_i Bb
    simp [Bb]at lu;subst lu;exact .rd (hr q c hq)
   ·cases hq
  obtain ⟨u7,_⟩:=XP hv j6;refine EI hm ?_ u7;simp only[execOp,k9,Sem.run_bind,bf];rw[cS ty agg n fv hn ⟨b,ob,none⟩ ((List.range n).map u) (by simp) m.w (λ q w' hq => ?_)]
  ·rfl
  ·have Bb:q<n:=by have:=(zS hq).1;simpa using this
   simp [Bb]at hq;subst hq;rw[G5];exact hc q cs[q] (zE (by omega))
 ·cases hl
theorem dG {α:Type} (l:List α) (off:Nat) (vs:List α) (h:off+vs.length<=l.length) (q:Nat):(l.take off++vs++l.drop (off+vs.length))[q]? = if q<off then l[q]? else if q<off+vs.length then vs[q-off]? else l[q]? := by
 rw[List.append_assoc];by_cases h1:q<off
 ·rw[if_pos h1,List.getElem?_append_left (by simp;omega),List.getElem?_take,if_pos h1]
 ·rw[if_neg h1,List.getElem?_append_right (by simp;omega)]
  have e1:(l.take off).length=off:=by simp;omega
  rw[e1];by_cases h2:q<off+vs.length
  ·rw[if_pos h2,List.getElem?_append_left (by omega)]
  ·rw[if_neg h2,List.getElem?_append_right (by omega),List.getElem?_drop]
   congr 1;omega
theorem fQ (hm:BR B S w0 m) {g:Nat} (hB:B<=g) (arr:Array Value):Below B w0 (m.w.setRow g arr) :=
 hm.below.trans ⟨rfl,rfl,rfl,by simp,λ k hk=>setRow_other _ _ _ _ (by omega)⟩
theorem iR (hm:BR B S w0 m) (hs:CX B S m ρ a.eval) {n:Nat} {x' v':AP} (h:BB P num o.op (.st n x' v')=true) {s t i j:Nat} {vs:List AV} {l8:AH} (hx:ρ x' = .ptr s t i j) (hv:cellsOf (ρ v')=some vs) (hn:vs.length=n) (j7:m.own.jo s t i j vs=some l8) :
  CY B S w0 P o a m (.cr (.j4 []) l8):=by
 obtain ⟨ty,x,v,inf,k9,h1,h2,hi,v5⟩:=Ql h;obtain ⟨ad,bf,ht,hb⟩:=TS (hx ▸ hs x x' h1);have j6:=WJ (hs v v' h2) hv;unfold AH.jo at j7;cases o4:m.own.get s t with
 | none=>simp [o4]at j7
 | some b =>
  simp only[o4]at j7;cases he:b.es[i]? with
  | none=>simp [he]at j7
  | some cs =>
   simp only[he]at j7;split at j7
   ·rename_i hle
    obtain rfl:=Option.some.inj j7;obtain ⟨hz,bt⟩:=hm.e6 s t b o4;obtain ⟨g,hg,rfl⟩:=hb b o4;rw[hg]at bt;obtain ⟨hB,arr,e,hh,y7⟩:=bt;have Es:cs.length=b.a8:=hz cs (zM he);have hlen:(a.eval v).cells.toList.length=vs.length:=j6.1.symm;have fg:i<b.es.length:=(zS he).1;have xd:i*b.a8+j+vs.length<=arr.size:=by
     rcases Nat.eq_zero_or_pos vs.length with h0|h0
     ·rcases Nat.eq_zero_or_pos j with Iq|Iq
      ·rw[h0,Iq]
       rcases Nat.eq_zero_or_pos i with lj|lj
       ·rw[lj];omega
       ·rcases Nat.eq_zero_or_pos b.a8 with bu|bu
        ·rw[bu];omega
        ·have Il:i-1<b.es.length:=by omega
         have kj:(b.es[i-1]).length=b.a8:=hz _ (List.getElem_mem Il);obtain ⟨u,hu,_⟩:=y7 (i-1) _ (zE Il) (b.a8-1) _ (zE (by omega));have:=(Array.getElem?_eq_some_iff.1 hu).1
         have e1:(i-1)*b.a8+b.a8=i*b.a8:=by
          rw[<-Nat.succ_mul];congr 1;omega
         omega
      ·obtain ⟨u,hu,_⟩:=y7 i cs he (j-1) cs[j-1] (zE (by omega))
       have:=(Array.getElem?_eq_some_iff.1 hu).1
       omega
     ·obtain ⟨u,hu,_⟩:=y7 i cs he (j+vs.length-1) cs[j+vs.length-1] (zE (by omega))
      have:=(Array.getElem?_eq_some_iff.1 hu).1
      omega
    have jj:=xD j6;have qp:=run_storeCells_at (P:=P) g (i*b.a8+j) e (a.eval v).cells.toList 0 arr m.w hh (by rw[hlen];omega) jj;generalize kb:(arr.toList.take (i*b.a8+j+0)++(a.eval v).cells.toList++arr.toList.drop (i*b.a8+j+0+(a.eval v).cells.toList.length)).toArray=u4 at qp;have ud : ∀ p,u4[p]? = if p<i*b.a8+j then arr[p]? else if p<i*b.a8+j+vs.length then (a.eval v).cells.toList[p-(i*b.a8+j)]? else arr[p]? := λ p=>by
     rw[<-kb];simp only[Nat.add_zero,List.getElem?_toArray];rw[dG _ _ _ (by rw[hlen];simpa using xd),hlen];simp only[Array.getElem?_toList]
    have na:u4.size=arr.size:=by
     rw[<-kb];simp [hlen];have:=hlen
     simp at this;omega
    obtain ⟨k1,k2⟩:=Uw hm s t b ⟨b.a8,b.es.set i (splice cs j vs)⟩ o4 g hg arr u4 e hh rfl (λ y hy=>by
      rcases List.mem_or_eq_of_mem_set hy with hy|hy
      ·exact hz y hy
      ·rw[hy,<-Es];simp [splice];omega) na
     (λ i' dc q5 q c hq=>by
      show ∃ u,u4[i'*b.a8+q]? = some u/\_;change (b.es.set i (splice cs j vs))[i']? = some dc at q5;by_cases Io:i'=i
      ·subst Io
       rw[List.getElem?_set_self fg]at q5;obtain rfl:splice cs j vs=dc:=by simpa using q5
       unfold splice at hq;rw[dG _ _ _ hle]at hq;rw[ud];by_cases uo:q<j
       ·rw[if_pos uo]at hq
        rw[if_pos (by omega)];exact y7 i' cs he q c hq
       ·rw[if_neg uo]at hq
        rw[if_neg (by omega)];by_cases yp:q<j+vs.length
        ·rw[if_pos yp]at hq
         rw[if_pos (by omega)];obtain ⟨u,hu,dv⟩:=RZ j6 hq;exact ⟨u,by rw[<-hu];congr 1;omega,dv⟩
        ·rw[if_neg yp]at hq
         rw[if_neg (by omega)];exact y7 i' cs he q c hq
      ·rw[List.getElem?_set_ne (by omega)]at q5
       have hql:q<b.a8:=by
        rw[<-hz dc (zM q5)];exact (zS hq).1
       obtain ⟨u,hu,dv⟩:=y7 i' dc q5 q c hq;refine ⟨u,?_,dv⟩;rw[ud,<-hu];rcases Nat.lt_or_gt_of_ne Io with l7|oa
       ·have:(i'+1)*b.a8<=i*b.a8:=zR _ l7
        rw[Nat.succ_mul]at this;rw[if_pos (by omega)]
       ·have:(i+1)*b.a8<=i'*b.a8:=zR _ oa
        rw[Nat.succ_mul]at this;rw[if_neg (by omega),if_neg (by omega)])
     (m.w.setRow g u4) (fQ hm hB u4) (by simp) (λ k hk=>setRow_other _ _ _ _ hk) (setRow_heap _ _ _ _ _ _ hh)
    intro K Q hK;refine Ve (w':=m.w.setRow g u4) ?_ (hK undef ⟨m.ν,_,m.w.setRow g u4⟩ rfl k1 k2 nR);have Gl:(a.eval v).cells.size=inf.size:=by rw[v5,<-hn,<-hlen];simp
    simp only[execOp,k9,bf,Instr.storeAt,storeVar,Instr.sureAddr,Sem.run_bind,Sem.run_pure,Result.andThen_ok,sizeOf,typeInfo,run_program,hi];rw[if_neg (by simpa using Gl)];simp only[Sem.run_bind,Sem.run_pure,Result.andThen_ok,qp]
   ·cases j7
theorem Ma (hm:BR B S w0 m) (hs:CX B S m ρ a.eval) {s a8 bytes:Nat} {zero:List AV} {l' c':AP} (h:BB P num o.op (.mk s a8 bytes zero l' c')=true) {kl kc:IntKind} {l c:Int} (hl:ρ l' = .int kl l) (hc:ρ c' = .int kc c) (h0:0<=l) (lk:l<=c) (hb:c*bytes<=EQ) (Dr:c<=9223372036854775807) (hz:zero.length=a8) :
  CY B S w0 P o a m (.new s ⟨a8,List.replicate l.toNat zero⟩ (λ t => .row s t a8 0 l.toNat)):=by
 obtain ⟨ty,lx,cx,e,inf,z,k9,h1,h2,hu,hi,v5,nk,bu,gj,m8⟩:=Qg h;have el:=HX (hl ▸ hs lx l' h1);have ec:=HX (hc ▸ hs cx c' h2);have j6:CL B S m zero z.cells.toList:=R9 gj;have hzs:z.cells.size=a8:=by rw[<-hz,j6.1];simp
 refine iQ hm s a8 l.toNat c.toNat _ (madeCells z.cells (c.toNat*inf.size)) e (Nat.pos_of_ne_zero m8) (by omega) (by rw[size_madeCells,v5];exact Nat.le_refl _) (λ x hx=>by rw[(List.mem_replicate.1 hx).2,hz]) (λ i cs q5 j c1 hj => ?_) ?_
 ·rw[List.getElem?_replicate]at q5
  split at q5
  ·rename_i fg
   obtain rfl:zero=cs:=by simpa using q5
   obtain ⟨u,jl,dv⟩:=RZ j6 hj;refine ⟨u,?_,dv⟩;have ek:j<a8:=by rw[<-hz];exact (zS hj).1
   have l7:i*a8+j<c.toNat*inf.size:=by
    rw[v5];have h3:(i+1)*a8<=c.toNat*a8:=zR _ (by omega);rw[Nat.succ_mul]at h3;omega
   have Fm:(i*a8+j)%z.cells.size=j:=by rw[hzs,Nat.add_comm,Nat.add_mul_mod_self_right,Nat.mod_eq_of_lt ek]
   have yy:z.cells[j]? = some u:=by simpa using jl
   have Zb:j<z.cells.size:=(Array.getElem?_eq_some_iff.1 yy).1;have jm:z.cells[j]=u:=(Array.getElem?_eq_some_iff.1 yy).2;simp [madeCells,l7,Fm,Zb,jm]
  ·cases q5
 ·have:=run_make (P:=P) m.w ty e inf z hu hi bu kl kc l c h0 lk (by rw[nk,Int.mul_comm];simp only[EQ]at hb;omega) Dr
  simp only[execOp,k9,el,ec,Sem.run_bind,this,Result.andThen_ok,Sem.run_pure]
theorem zU (hm:BR B S w0 m) (hs:CX B S m ρ a.eval) {x':AP} {i:Nat} (h:BB P num o.op (.ext x' i)=true) {vs:List AV} {v:AV} (hx:ρ x' = .j4 vs) (hv:vs[i]? = some v):CY B S w0 P o a m (.val v):=by
 obtain ⟨x,k9,h1⟩:=Sb h;obtain ⟨us,bf,hl,hc⟩:=ZI (hx ▸ hs x x' h1);have l7:i<us.length:=by rw[<-hl];exact (zS hv).1
 refine EI hm (u:=us[i]) ?_ (.ca (hc i v us[i] hv (zE l7)));simp [execOp,k9,bf,Instr.extract,l7]
theorem Lz (hm:BR B S w0 m) (hs:CX B S m ρ a.eval) {x':AP} (h:BB P num o.op (.len x')=true) {n:Nat} (hx:OT (ρ x')=some n):CY B S w0 P o a m (.val (.int .i64 n)):=by
 obtain ⟨x,t,e,k9,h1,hu⟩:=Qf h;have u7:=hs x x' h1;obtain ⟨ad,cap,bf⟩ : ∃ ad cap,a.eval x = .slice ad n cap:=by
  generalize ρ x'=av at *;cases av with
  | sl l es =>
   have hr:=WK u7;simp only[OT,Option.some.injEq]at hx;subst hx;generalize a.eval x=v at *;cases hr with
   | gn=>exact ⟨_,_,rfl⟩
   | sl=>exact ⟨_,_,rfl⟩
  | row s t z off len =>
   obtain ⟨ad,cap,hv,_⟩:=R6 u7;simp only[OT,Option.some.injEq]at hx;subst hx;exact ⟨ad,cap,hv⟩
  | nil =>
   simp only[OT,Option.some.injEq]at hx;subst hx;exact ⟨_,_,R5 u7⟩
  | _=>simp [OT]at hx
 refine EI hm (u := .int .i64 n) ?_ (PK _ _);simp [execOp,k9,resolve,invoke,builtin,bf,Builtin.len_,run_underlying hu,goInt]
theorem QL (hs:CX B S m ρ a.eval) : ∀ {xs:List Operand} {ys:List AP},D8 xs ys=true->xs.length=ys.length /\ ∀ (j:Nat) (x:Operand) (y:AP),xs[j]? = some x->ys[j]? = some y->CV B S m (ρ y) (a.eval x)
 | [],[],_=>⟨rfl,λ j x y h=>by simp at h⟩
 | x::r,y::l,h=>by
  simp only[D8,Bool.and_eq_true]at h;obtain ⟨ih1,lz⟩:=QL hs h.2;refine ⟨by simp [ih1],λ j x' y' hx hy => ?_⟩;cases j with
  | zero=>simp at hx hy;subst hx hy;exact hs _ _ h.1
  | succ j=>exact lz j x' y' (by simpa using hx) (by simpa using hy)
 | [],_::_,h=>by simp [D8]at h
 | _::_,[],h=>by simp [D8]at h
theorem pT (mx:Bool) (hs:CX B S m ρ a.eval) (w:World) : ∀ (xs:List Operand) (ys:List AP) (v:AV) (u:Value) (r:AV),D8 xs ys=true->CV B S m v u->JX mx v (ys.map ρ)=some r->(∃ k n,v = .int k n) -> ∃ k n,r = .int k n /\
  ((xs.map a.eval).foldlM (if mx then Builtin.max2 else Builtin.min2) u).run P w = .ok (.int k n) w
 | [],[],v,u,r,_,hc,hm,⟨k,n,hv⟩=>by
  simp only[List.map_nil,JX,Option.some.injEq]at hm;subst hm hv;obtain rfl:=HX hc;exact ⟨k,n,rfl,by simp⟩
 | x::xr,y::yr,v,u,r,he,hc,hm,⟨k,n,hv⟩=>by
  simp only[D8,Bool.and_eq_true]at he;simp only[List.map_cons,JX]at hm;have hx:=hs x y he.1;subst hv;obtain rfl:=HX hc;cases hy:ρ y with
  | int k' n' =>
   rw[hy]at hx hm;have hxe:=HX hx;simp only[OW]at hm;obtain ⟨k2,n2,rfl,h2⟩:=pT mx hs w xr yr _ (.int k (if mx then (if n'>n then n' else n) else (if n'<n then n' else n))) r he.2 (PK _ _) hm ⟨_,_,rfl⟩;refine ⟨k2,n2,rfl,?_⟩;simp only[List.map_cons,List.foldlM_cons,Sem.run_bind,hxe];cases mx
   ·simpa [Builtin.min2] using h2
   ·simpa [Builtin.max2] using h2
  | _=>rw[hy]at hm;simp [OW]at hm
 | [],_::_,_,_,_,he,_,_,_=>by simp [D8]at he
 | _::_,[],_,_,_,he,_,_,_=>by simp [D8]at he
theorem Mc (hm:BR B S w0 m) (hs:CX B S m ρ a.eval) {mx:Bool} {o3:List AP} (h:BB P num o.op (.mm mx o3)=true) {v r:AV} {l:List AV} (hx:o3.map ρ=v::l) (hv:JX mx v l=some r) (hi : ∃ k n,v = .int k n):CY B S w0 P o a m (.val r):=by
 obtain ⟨xs,ts,k9,he⟩:=mO h;cases o3 with
 | nil=>simp at hx
 | cons y yr =>
  simp only[List.map_cons,List.cons.injEq]at hx;obtain ⟨rfl,rfl⟩:=hx;obtain ⟨xl⟩:=xs;cases xl with
  | nil=>simp [D8]at he
  | cons x xr =>
   simp only[D8,Bool.and_eq_true]at he;obtain ⟨k,n,rfl,q6⟩:=pT (P:=P) mx hs m.w xr yr (ρ y) (a.eval x) r he.2 (hs x y he.1) hv hi;refine EI hm (u := .int k n) ?_ (PK _ _);cases mx
   ·simp only[execOp,k9,resolve,invoke,builtin,Builtin.min_,Sem.run_bind,Sem.run_pure,Result.andThen_ok]at q6 ⊢
    simp at q6 ⊢;rw[q6];rfl
   ·simp only[execOp,k9,resolve,invoke,builtin,Builtin.max_,Sem.run_bind,Sem.run_pure,Result.andThen_ok]at q6 ⊢
    simp at q6 ⊢;rw[q6];rfl
end
end Go.e9

namespace Go.e9
open Go.RowKit
section
variable {B:Nat} {S:Nat->Prop} {w0:World} {m:M}
variable {P:Program} {num:Nat->Nat} {o:Oper} {a:Act} {ρ:AP->AV}
def G6 (ρ:AP->AV) (d:Nat):Option AP->Option Int
 | none=>some d
 | some y=>match ρ y with | .int _ n=>some n|_=>none
theorem X5 (ty e:TypeId) (inf:TypeInfo) (hu:P.underlying ty=some (.slice e)) (hi:P.info? e=some inf) (hs:CX B S m ρ a.eval) {lo q5:Option Operand} {ma Am:Option AP} (ln:N2 lo ma=true) (Co:N2 q5 Am=true)
  (ad:Option Addr) (len cap:Nat) (l h:Int) (hl:G6 ρ 0 ma=some l) (hh:G6 ρ len Am=some h) (h0:0<=l) (hlh:l<=h) (hhl:h<=len) (lk:len<=cap) (w:World) :
  (Instr.sliceAt ty (.slice ad len cap) (lo.map a.eval) (q5.map a.eval) none).run P w = .ok (.slice (if cap=l.toNat then ad else ad.map (·.add (l.toNat*inf.size))) (h.toNat-l.toNat) (cap-l.toNat)) w:=by
 have rk : ∀ {x:Option Operand} {y:Option AP} {d:Nat} {n:Int},N2 x y=true->G6 ρ d y=some n->(x=none/\y=none/\n=d) \/ ∃ x' k,x=some x'/\a.eval x' = .int k n:=by
  intro x y d n ko hb;cases x with
  | none=>cases y with
   | none=>simp [G6]at hb;exact .inl ⟨rfl,rfl,hb.symm⟩
   | some y=>simp [N2]at ko
  | some x=>cases y with
   | none=>simp [N2]at ko
   | some y =>
    simp only[N2]at ko;simp only[G6]at hb;cases hy:ρ y with
    | int k q =>
     rw[hy]at hb;simp only[Option.some.injEq]at hb;subst hb;exact .inr ⟨x,k,rfl,HX (hy ▸ hs x y ko)⟩
    | _=>rw[hy]at hb;cases hb
 have ue:h<=(cap:Int):=by omega
 unfold Instr.sliceAt Instr.slice Instr.sliceBounds;rcases rk ln hl with ⟨rfl,_,rfl⟩|⟨x1,k1,rfl,e1⟩<;>rcases rk Co hh with ⟨rfl,_,rfl⟩|⟨x2,k2,rfl,e2⟩
 ·simp [run_underlying hu,sizeOf,typeInfo,hi]
 ·have wh:=run_sliceBound (P:=P) w k2 h cap .sliceAcap (by omega) ue
  simp [run_underlying hu,sizeOf,typeInfo,hi,e2,wh]
 ·have q7:=run_sliceBound (P:=P) w k1 l len .sliceB h0 (by omega)
  simp [run_underlying hu,sizeOf,typeInfo,hi,e1,q7]
 ·have wh:=run_sliceBound (P:=P) w k2 h cap .sliceAcap (by omega) ue
  have q7:=run_sliceBound (P:=P) w k1 l h.toNat .sliceB h0 (by omega);simp [run_underlying hu,sizeOf,typeInfo,hi,e1,e2,wh,q7]
theorem Mg (hm:BR B S w0 m) (hs:CX B S m ρ a.eval) {a8:Nat} {x':AP} {ma q5:Option AP} (h:BB P num o.op (.ew a8 x' ma q5)=true) (hx:ρ x' = .nil) (hl:G6 ρ 0 ma=some 0) (hh:G6 ρ 0 q5=some 0):CY B S w0 P o a m (.val .nil):=by
 obtain ⟨ty,x,lo,rj,e,inf,k9,h1,h2,h3,hu,hi,v5,m8⟩:=aY h;have bf:=R5 (hx ▸ hs x x' h1);have q6:=X5 ty e inf hu hi hs h2 h3 none 0 0 0 0 hl hh (by omega) (by omega) (by omega) (by omega) m.w;refine EI hm (u := .slice none 0 0) ?_ (.ca (.one .nil));simp only[execOp,k9,bf,Sem.run_bind,Option.map_none,q6];rfl
theorem Mh (hm:BR B S w0 m) (hs:CX B S m ρ a.eval) {a8:Nat} {x':AP} {ma q5:Option AP} (h:BB P num o.op (.ew a8 x' ma q5)=true) {s t z off len:Nat} {l u:Int} (hx:ρ x' = .row s t z off len) (hl:G6 ρ 0 ma=some l) (hh:G6 ρ len q5=some u) (h0:0<=l) (Cq:l<=u) (jm:u<=len) (hz:z=a8) :
  CY B S w0 P o a m (.val (.row s t z (off+l.toNat) (u.toNat-l.toNat))):=by
 obtain ⟨ty,x,lo,rj,e,inf,k9,h1,h2,h3,hu,hi,v5,m8⟩:=aY h;obtain ⟨ad,cap,bf,ht,bu,lk,ha,hb⟩:=R6 (hx ▸ hs x x' h1);have q6:=X5 ty e inf hu hi hs h2 h3 ad len cap l u hl hh h0 Cq jm lk m.w;refine EI hm ?_ (.ca (.one (.row s t z (off+l.toNat) (u.toNat-l.toNat) (if cap=l.toNat then ad else ad.map (·.add (l.toNat*inf.size))) (cap-l.toNat) ht bu (by omega) (λ hp => ?_) λ b k8 => ?_)))
 ·simp only[execOp,k9,bf,Sem.run_bind,Option.map_none,q6]
  rfl
 ·rw[if_neg (by omega)]
  obtain ⟨xx,rfl⟩:=Option.isSome_iff_exists.1 (ha (by omega));rfl
 ·obtain ⟨im,dh⟩:=hb b k8
  refine ⟨im,?_⟩;rcases dh with ⟨rl,fy⟩|⟨g,arr,e',hg,jc,Cn,hle⟩
  ·exact .inl ⟨by omega,by omega⟩
  ·by_cases hc:cap=l.toNat
   ·exact .inl ⟨by omega,by omega⟩
   ·refine .inr ⟨g,arr,e',hg,?_,Cn,?_⟩
    ·rw[if_neg hc,jc,v5,hz]
     simp only[Option.map_some,G5,Nat.add_mul]
    ·rw[show off+l.toNat+(cap-l.toNat)=off+cap by omega]
     exact hle
theorem Mi (hm:BR B S w0 m) (hs:CX B S m ρ a.eval) {a8:Nat} {x':AP} {ma q5:Option AP} (h:BB P num o.op (.ew a8 x' ma q5)=true) {lt:Bool} {es:List (List AV)} {l u:Int} (hx:ρ x' = .sl lt es) (hl:G6 ρ 0 ma=some l) (hh:G6 ρ es.length q5=some u) (h0:0<=l) (Cq:l<=u) (jm:u<=es.length) (hz : ∀ e∈es,e.length=a8) :
  CY B S w0 P o a m (.val (.sl lt ((es.take u.toNat).drop l.toNat))):=by
 obtain ⟨ty,x,lo,rj,e,inf,k9,h1,h2,h3,hu,hi,v5,m8⟩:=aY h;have jt:=WK (hx ▸ hs x x' h1);generalize bf:a.eval x=v at jt;cases jt with
 | gn _ ad cap =>
  have q6:=X5 ty e inf hu hi hs h2 h3 ad 0 cap l u hl hh h0 Cq (by simpa using jm) (by omega) m.w;simp only[List.length_nil]at jm;rw[show (([]:List (List AV)).take u.toNat).drop l.toNat=[] by simp];refine EI hm (u := .slice (if cap=l.toNat then ad else ad.map (·.add (l.toNat*inf.size))) 0 (cap-l.toNat)) ?_ (.ca (.one (.rd (.gn lt _ _))));simp only[execOp,k9,bf,Sem.run_bind,Option.map_none,q6];rw[show u.toNat-l.toNat=0 by omega];rfl
 | sl _ _ b ob u5 cap uu qk hp hR aw gj hc hr =>
  have q6:=X5 ty e inf hu hi hs h2 h3 (some ⟨b,ob,none⟩) es.length cap l u hl hh h0 Cq jm aw m.w;have Bq:u5=a8:=by
   cases es with
   | nil=>exact absurd rfl qk
   | cons q r=>rw[<-gj q (by simp),hz q (by simp)]
  subst Bq;by_cases bu:u.toNat-l.toNat=0
  ·have:(es.take u.toNat).drop l.toNat=[]:=by
    apply List.eq_nil_of_length_eq_zero;simp;omega
   rw[this];refine EI hm (u := .slice (if cap=l.toNat then some ⟨b,ob,none⟩ else (some (⟨b,ob,none⟩:Addr)).map (·.add (l.toNat*inf.size))) 0 (cap-l.toNat)) ?_ (.ca (.one (.rd (Rd.gn lt _ _))));simp only[execOp,k9,bf,Sem.run_bind,Option.map_none,q6];rw[bu];rfl
  ·have hlen:((es.take u.toNat).drop l.toNat).length=u.toNat-l.toNat:=by simp;omega
   have o4 : ∀ i,i<u.toNat-l.toNat->((es.take u.toNat).drop l.toNat)[i]? = es[l.toNat+i]? := λ i q5=>by
    rw[List.getElem?_drop,List.getElem?_take,if_pos (by omega)]
   refine EI hm (u := .slice (some ⟨b,ob+l.toNat*u5,none⟩) ((es.take u.toNat).drop l.toNat).length (cap-l.toNat)) ?_ (.ca (.one (.rd (.sl lt _ b (ob+l.toNat*u5) u5 (cap-l.toNat) (λ i j=>uu (l.toNat+i) j) (λ e=>bu (by rw[<-hlen,e];rfl)) hp hR (by rw[hlen];omega) (λ q hq=>gj q (List.mem_of_mem_take (List.mem_of_mem_drop hq))) (λ i q q5 j c hj => ?_) (λ i q q5 j c hj => ?_)))))
   ·simp only[execOp,k9,bf,Sem.run_bind,Option.map_none,q6]
    rw[if_neg (by omega),hlen,v5];simp only[Option.map_some,G5];rfl
   ·have fg:i<u.toNat-l.toNat:=by rw[<-hlen];exact (zS q5).1
    rw[o4 i fg]at q5;rw[show ob+l.toNat*u5+(i*u5+j)=ob+((l.toNat+i)*u5+j) by rw[Nat.add_mul];omega];exact hc _ q q5 j c hj
   ·have fg:i<u.toNat-l.toNat:=by rw[<-hlen];exact (zS q5).1
    rw[o4 i fg]at q5;exact hr _ q q5 j c hj
structure S7 (B:Nat) (S:Nat->Prop) (m:M) (a8:Nat) (ys:List (List AV)) (ad:Option Addr) (news:List Value):Prop where
 len:news.length=ys.length*a8
 cells : ∀ b,ad=some b -> ∀ j v,news[j]? = some v->m.w.cell? (b.add j)=some v
 some_:ys≠[]->ad.isSome=true
 rel : ∀ i cs,ys[i]? = some cs -> ∀ j c,cs[j]? = some c -> ∃ u,news[i*a8+j]? = some u/\CC B S m c u
theorem yX (a8 i j:Nat) (h:j<a8):(i*a8+j)/a8=i/\(i*a8+j)%a8=j:=by
 constructor
 ·rw[Nat.add_comm,Nat.add_mul_div_right _ _ (by omega),Nat.div_eq_of_lt h,Nat.zero_add]
 ·rw[Nat.add_comm,Nat.add_mul_mod_self_right,Nat.mod_eq_of_lt h]
theorem ZV (hm:BR B S w0 m) {av:AV} {v:Value} (hc:CV B S m av v) {ys:List (List AV)} (he:EJ m.own av=some ys) {a8:Nat} (hz : ∀ e∈ys,e.length=a8) (h0:0<a8) :
  ∃ ad cap news,v = .slice ad ys.length cap/\S7 B S m a8 ys ad news:=by
 cases av with
 | sl l es =>
  simp only[EJ,Option.some.injEq]at he;subst he;cases WK hc with
  | gn _ ad cap=>exact ⟨ad,cap,[],rfl,by simp,λ b _ j v hv=>by simp at hv,λ h=>absurd rfl h,λ i cs hi=>by simp at hi⟩
  | sl _ _ b ob u5 cap uu qk hp hR aw gj j6 hr =>
   have Bq:u5=a8:=by
    cases es with
    | nil=>exact absurd rfl qk
    | cons q r=>rw[<-gj q (by simp),hz q (by simp)]
   subst Bq;refine ⟨some ⟨b,ob,none⟩,cap,(List.range (es.length*u5)).map (λ k=>uu (k/u5) (k%u5)),rfl,by simp,λ b' k8 j v hv => ?_,λ_=>rfl,λ i cs hi j c hj => ?_⟩
   ·obtain rfl:(⟨b,ob,none⟩:Addr)=b':=by simpa using k8
    rw[List.getElem?_map]at hv;have ek:j<es.length*u5:=by
     rcases Nat.lt_or_ge j (es.length*u5) with h|h
     ·exact h
     ·rw[List.getElem?_eq_none (by simpa using h)]at hv;cases hv
    rw[List.getElem?_range ek]at hv;simp only[Option.map_some,Option.some.injEq]at hv;subst hv;have hd:j/u5<es.length:=Nat.div_lt_of_lt_mul (by rw[Nat.mul_comm];exact ek);have Fl:j%u5<u5:=Nat.mod_lt _ h0;have de:(es[j/u5]).length=u5:=gj _ (List.getElem_mem hd);have:=j6 (j/u5) _ (zE hd) (j%u5) _ (zE (by rw[de];exact Fl))
    rw[G5,<-this];congr 2;have:=Nat.div_add_mod j u5
    rw[Nat.mul_comm]at this;omega
   ·have ek:j<u5:=by rw[<-gj cs (zM hi)];exact (zS hj).1
    have fg:i<es.length:=(zS hi).1;have l7:i*u5+j<es.length*u5:=by
     have:(i+1)*u5<=es.length*u5:=zR _ fg
     rw[Nat.succ_mul]at this;omega
    obtain ⟨e1,e2⟩:=yX u5 i j ek;refine ⟨uu i j,?_,.rd (hr i cs hi j c hj)⟩;rw[List.getElem?_map,List.getElem?_range l7];simp [e1,e2]
 | nil =>
  simp only[EJ,Option.some.injEq]at he;subst he;exact ⟨none,0,[],R5 hc,by simp,λ b hb=>(by cases hb),λ h=>absurd rfl h,λ i cs hi=>by simp at hi⟩
 | row s t z off len =>
  obtain ⟨ad,cap,hv,ht,bu,lk,ha,hb⟩:=R6 hc;simp only[EJ]at he;cases o4:m.own.get s t with
  | none=>simp [o4]at he
  | some b =>
   simp only[o4]at he;split at he
   ·rename_i hle
    obtain ⟨hle,im⟩:=hle;obtain rfl:=Option.some.inj he;have Jk:((b.es.drop off).take len).length=len:=by simp;omega
    obtain ⟨_,dh⟩:=hb b o4;by_cases rl:len=0
    ·subst rl
     refine ⟨ad,cap,[],by simpa using hv,by simp,λ b _ j v hv=>by simp at hv,λ h=>absurd (by simp) h,λ i cs hi=>by simp at hi⟩
    ·rcases dh with ⟨h1,_⟩|⟨g,arr,e',hg,jc,Cn,Zi⟩
     ·exact absurd h1 rl
     ·obtain ⟨gj,bt⟩:=hm.e6 s t b o4
      rw[hg]at bt;obtain ⟨hB,pg,e2,ug,y7⟩:=bt;rw[Cn]at ug;obtain ⟨rfl,rfl⟩:arr=pg/\e'=e2:=by simpa using ug
      have Yr:a8=z:=by
       have l7:off<b.es.length:=by omega
       have h1:b.es[off]∈(b.es.drop off).take len:=by
        have:((b.es.drop off).take len)[0]? = some b.es[off]:=by
         rw[List.getElem?_take,if_pos (by omega),List.getElem?_drop];simp [l7]
        exact zM this
       rw[<-hz _ h1,gj _ (List.getElem_mem l7),im]
      subst Yr;have v5:off*a8+len*a8<=arr.size:=by
       have:(off+len)*a8<=(off+cap)*a8:=zR _ (by omega)
       rw[Nat.add_mul]at this;omega
      refine ⟨ad,cap,(arr.toList.drop (off*a8)).take (len*a8),by rw[Jk];exact hv,by rw[Jk];simp;omega,λ b' k8 j v lu => ?_,λ_=>by rw[jc];rfl,λ i cs hi j c hj => ?_⟩
      ·rw[jc]at k8
       obtain rfl:(⟨g,off*a8,none⟩:Addr)=b':=by simpa using k8
       rw[List.getElem?_take]at lu;split at lu
       ·rw[List.getElem?_drop]at lu
        rw[G5,WB Cn];simpa using lu
       ·cases lu
      ·rw[List.getElem?_take]at hi
       split at hi
       ·rename_i fg
        rw[List.getElem?_drop]at hi;have ek:j<a8:=by rw[<-im,<-gj cs (zM hi)];exact (zS hj).1
        obtain ⟨u,hu,dv⟩:=y7 (off+i) cs hi j c hj;refine ⟨u,?_,dv⟩;have l7:i*a8+j<len*a8:=by
         have:(i+1)*a8<=len*a8:=zR _ fg
         rw[Nat.succ_mul]at this;omega
        rw[List.getElem?_take,if_pos l7,List.getElem?_drop,<-hu,im];simp only[Array.getElem?_toList];congr 1;rw[Nat.add_mul];omega
       ·cases hi
   ·cases he
 | bh v' =>
  cases v' with
  | bool b =>
   simp only[EJ,Option.some.injEq]at he;subst he;obtain ⟨ad,cap,hv,_⟩:=gZ hc;exact ⟨ad,cap,[],hv,by simp,λ b' k8 j v lu=>by simp at lu,λ h=>absurd rfl h,λ i cs hi=>by simp at hi⟩
  | _=>simp [EJ]at he
 | _=>simp [EJ]at he
theorem S7.one {a8:Nat} {ys:List (List AV)} {ad:Option Addr} {news:List Value} (h:S7 B S m a8 ys ad news) (h0:0<a8) (hz : ∀ e∈ys,e.length=a8) : ∀ u∈news,u.oneCell'=true:=by
 intro u hu;obtain ⟨k,hk,rfl⟩:=List.getElem_of_mem hu;rw[h.len]at hk;have hd:k/a8<ys.length:=Nat.div_lt_of_lt_mul (by rw[Nat.mul_comm];exact hk);have Fl:k%a8<a8:=Nat.mod_lt _ h0;have de:(ys[k/a8]).length=a8:=hz _ (List.getElem_mem hd);obtain ⟨u',jl,hc⟩:=h.rel (k/a8) _ (zE hd) (k%a8) _ (zE (by rw[de];exact Fl));have gv:k/a8*a8+k%a8=k:=by
  have:=Nat.div_add_mod k a8
  rw[Nat.mul_comm]at this;exact this
 rw[gv]at jl;obtain rfl:news[k]=u':=by
  have:=(zS jl).2
  exact this
 exact hc.one
theorem S7.src {a8:Nat} {ys:List (List AV)} {ad:Option Addr} {news:List Value} (h:S7 B S m a8 ys ad news) (h0:0<a8) (hz : ∀ e∈ys,e.length=a8) {t e:TypeId} (hu:P.underlying t=some (.slice e)) (cap:Nat):Src P a8 t (.slice ad ys.length cap) ys.length news m.w:=by
 cases ad with
 | none =>
  have tj:ys=[]:=by
   cases ys with
   | nil=>rfl
   | cons y r=>exact absurd (h.some_ (by simp)) (by simp)
  subst tj;have hn:news=[]:=List.eq_nil_of_length_eq_zero (by simpa using h.len);subst hn;exact Src.ofNil m.w hu cap
 | some b=>exact Src.ofSlice m.w hu b ys.length cap news h.len (h.cells b rfl) (h.one h0 hz)
theorem Tv (arr:Array Value) (off:Nat) (news:List Value) (h:off+news.length<=arr.size) (p:Nat):(arr.toList.take off++news++arr.toList.drop (off+news.length)).toArray[p]? = if p<off then arr[p]? else if p<off+news.length then news[p-off]? else arr[p]? := by
 simp only[List.getElem?_toArray];rw[dG _ _ _ (by simpa using h)];simp only[Array.getElem?_toList]
theorem Ti (t tx e ex:TypeId) (i:TypeInfo) (ht:P.underlying t=some (.slice e)) (hx:P.underlying tx=some (.slice ex)) (hi:P.info? e=some i) (g off nf ou:Nat) (x:Value) (n:Nat) (news:List Value) (w:World) (hs:Src P i.size tx x n news w) (km:nf+n<=ou) (arr:Array Value) (e':TypeId)
  (hh:w.heap[g]? = some (.cells arr e' (0,0))) (v5:off+nf*i.size+news.length<=arr.size) (ty:TypeId) :
  (Builtin.append_ #[t,tx] ty #[.slice (some ⟨g,off,none⟩) nf ou,x]).run P w = .ok (.slice (some ⟨g,off,none⟩) (nf+n) ou) (w.setRow g (arr.toList.take (off+nf*i.size)++news++arr.toList.drop (off+nf*i.size+news.length)).toArray):=by
 have j7:=run_storeCells_at (P:=P) g (off+nf*i.size) e' news 0 arr w hh (by omega) hs.one;simp only[Nat.add_zero]at j7;simp [Builtin.append_,run_underlying ht,run_underlying hx,sizeOf,typeInfo,hi,hs.len,km,hs.cells,G5,j7]
theorem pQ (t tx e ex:TypeId) (i:TypeInfo) (ht:P.underlying t=some (.slice e)) (hx:P.underlying tx=some (.slice ex)) (hi:P.info? e=some i) (ad:Option Addr) (ou:Nat) (x:Value) (w:World) (hs:Src P i.size tx x 0 [] w) (ty:TypeId) :
  (Builtin.append_ #[t,tx] ty #[.slice ad 0 ou,x]).run P w = .ok (.slice ad 0 ou) w:=by
 have hc:=hs.cells;cases ad<;>simp [Builtin.append_,run_underlying ht,run_underlying hx,sizeOf,typeInfo,hi,hs.len,hc,storeCells]
theorem U6 {x y:Operand} {t tx:TypeId} (k9:o.op = .call ⟨.builtin .append,#[x,y],#[t,tx]⟩) {u:Value} {w w':World} (h:(Builtin.append_ #[t,tx] o.type #[a.eval x,a.eval y]).run P w = .ok u w'):(execOp a.eval o).run P w = .ok (.value u) w':=by
 simp [execOp,k9,resolve,invoke,builtin,h]
theorem Od (cq news:List Value) (z:Array Value) (k p:Nat) (h:p<cq.length+news.length):((cq++news).toArray++Builtin.zeroCells z k)[p]? = (cq++news)[p]? := by
 rw[Array.getElem?_append_left (by simpa using h)];simp
theorem Ta {a8 len:Nat} {xs ys:List (List AV)} {cq news:List Value} (Dc:xs.length=len) (Cs:cq.length=len*a8) (hzx : ∀ e∈xs,e.length=a8)
  (hx : ∀ i cs,xs[i]? = some cs -> ∀ j c,cs[j]? = some c -> ∃ u,cq[i*a8+j]? = some u/\CC B S m c u)
  (hy : ∀ i cs,ys[i]? = some cs -> ∀ j c,cs[j]? = some c -> ∃ u,news[i*a8+j]? = some u/\CC B S m c u) :
  ∀ i cs,(xs++ys)[i]? = some cs -> ∀ j c,cs[j]? = some c -> ∃ u,(cq++news)[i*a8+j]? = some u/\CC B S m c u:=by
 intro i cs hi j c hj;by_cases fg:i<len
 ·rw[List.getElem?_append_left (by omega)]at hi
  obtain ⟨u,hu,hc⟩:=hx i cs hi j c hj;exact ⟨u,by rw[List.getElem?_append_left (by have:=(zS hu).1;omega)];exact hu,hc⟩
 ·rw[List.getElem?_append_right (by omega),Dc]at hi
  obtain ⟨u,hu,hc⟩:=hy (i-len) cs hi j c hj;refine ⟨u,?_,hc⟩;have e1:i*a8=len*a8+(i-len)*a8:=by rw[<-Nat.add_mul];congr 1;omega
  rw[List.getElem?_append_right (by omega),<-hu];congr 1;omega
theorem nX {s z n cap:Nat} {es:List (List AV)} {w':World} {g t:Nat} {arr:Array Value} {e:TypeId} (hz:0<z) (hn:n<=cap) (hg:w'.heap[g]? = some (.cells arr e (0,0))) (hc:cap*z<=arr.size) :
  CV B S ⟨j5 m s (some g),m.own.put s (((m.own s).o9 t none).new ⟨z,es⟩),w'⟩ (.row s (m.own.g8 s) z 0 n) (.slice (some ⟨g,0,none⟩) n cap):=by
 refine .ca (.one (.row s (m.own.g8 s) z 0 n _ cap ?_ hz hn (λ_=>rfl) λ b' k8=>⟨?_,.inr ⟨g,arr,e,?_,by simp,hg,by simpa using hc⟩⟩))
 ·show _<AH.g8 _ s
  rw[WH];simp
 ·change AH.get _ s _=some b' at k8
  rw[QQ,if_pos ⟨rfl,rfl⟩]at k8;obtain rfl:(⟨z,es⟩:DZ)=b':=by simpa using k8
  rfl
 ·simp [j5]
theorem wK (hm:BR B S w0 m) (ob:Obj):Below B w0 (m.w.drew.alloc ob):=hm.below.drew.alloc (by simpa using hm.size) ob
theorem iK (hm:BR B S w0 m) (hs:CX B S m ρ a.eval) {s a8 bytes:Nat} {x' y':AP} (h:BB P num o.op (.app s a8 bytes x' y')=true) {ys:List (List AV)} (hy:EJ m.own (ρ y')=some ys) (hz : ∀ e∈ys,e.length=a8) {s' t len:Nat} {b:DZ} (hx:ρ x' = .row s' t a8 0 len) (o4:m.own.get s' t=some b)
  (im:b.a8=a8) (hle:len<=b.es.length) (km:(len+ys.length)*bytes<=EQ) (Dr:len+ys.length<=9223372036854775807) :
  CY B S w0 P o a m (.cr (.row s' (m.own.g8 s') a8 0 (len+ys.length)) (m.own.put s' (((m.own s').o9 t none).new ⟨a8,b.es.take len++ys⟩))):=by
 obtain ⟨x,y,ty,e,i,z,tx,ex,k9,h1,h2,hu,hi,v5,nk,bu,gj,m8,yz⟩:=mK h;have h0:0<a8:=Nat.pos_of_ne_zero m8;obtain ⟨ad,cap,bf,ht,_,lk,ha,hb⟩:=R6 (hx ▸ hs x x' h1);obtain ⟨vk,ij,news,rn,de⟩:=ZV hm (hs y y' h2) hy hz h0;have oe:Src P i.size tx (.slice vk ys.length ij) ys.length news m.w:=by rw[v5];exact de.src h0 hz yz ij
 obtain ⟨Ci,bt⟩:=hm.e6 s' t b o4;obtain ⟨_,dh⟩:=hb b o4;have fo:(b.es.take len).length=len:=by simp;omega
 have va : ∀ q∈b.es.take len++ys,q.length=a8:=λ q hq=>by
  rcases List.mem_append.1 hq with hq|hq
  ·rw[<-im];exact Ci q (List.mem_of_mem_take hq)
  ·exact hz q hq
 intro K Q hK;by_cases sv:len+ys.length<=cap
 ·rcases dh with ⟨rl,fy⟩|⟨g,arr,e',hg,jc,hh,Et⟩
  ·have tj:ys=[]:=List.eq_nil_of_length_eq_zero (by omega)
   subst tj;subst rl fy;have sz:news=[]:=List.eq_nil_of_length_eq_zero (by simpa using de.len);subst sz;have q6:=pQ ty tx e ex i hu yz hi ad 0 (.slice vk 0 ij) m.w (by simpa using oe) o.type;obtain ⟨k1,k2⟩:=bS hm s' t b ⟨a8,b.es.take 0++[]⟩ o4 none m.w hm.below (Nat.le_refl _) (λ_ _ _=>rfl) (by simp) (by simp) (by simp);refine O4 (U6 k9 (by rw[bf,rn];simpa using q6)) (hK _ ⟨j5 m s' none,m.own.put s' (((m.own s').o9 t none).new ⟨a8,b.es.take 0++[]⟩),m.w⟩ rfl k1 k2 (.ca (.one (.row s' (m.own.g8 s') a8 0 0 ad 0 ?_ h0 (Nat.le_refl _) (λ h=>by omega) λ b' k8=>⟨?_,.inl ⟨rfl,rfl⟩⟩))))
   ·show _<AH.g8 _ s'
    rw[WH];simp
   ·change AH.get _ s' _=some b' at k8
    rw[QQ,if_pos ⟨rfl,rfl⟩]at k8;obtain rfl:(⟨a8,b.es.take 0++[]⟩:DZ)=b':=by simpa using k8
    rfl
  ·have wc:ad=some ⟨g,0,none⟩:=by simpa using jc
   rw[hg]at bt;obtain ⟨hB,pg,e2,ug,y7⟩:=bt;rw[hh]at ug;obtain ⟨rfl,rfl⟩:arr=pg/\e'=e2:=by simpa using ug
   have ym:news.length=ys.length*a8:=de.len;have hbound:len*a8+news.length<=arr.size:=by
    have:(len+ys.length)*a8<=(0+cap)*a8:=zR _ (by omega)
    rw[Nat.add_mul]at this;omega
   have q6:=Ti ty tx e ex i hu yz hi g 0 len cap (.slice vk ys.length ij) ys.length news m.w oe sv arr e' hh (by rw[v5];omega) o.type;rw[v5,Nat.zero_add]at q6;generalize kb:(arr.toList.take (len*a8)++news++arr.toList.drop (len*a8+news.length)).toArray=u4 at q6;have df : ∀ p,u4[p]? = if p<len*a8 then arr[p]? else if p<len*a8+news.length then news[p-len*a8]? else arr[p]? := λ p=>by rw[<-kb];exact Tv arr (len*a8) news hbound p
   have na:u4.size=arr.size:=by rw[<-kb];simp;omega
   obtain ⟨k1,k2⟩:=bS hm s' t b ⟨a8,b.es.take len++ys⟩ o4 (some g) (m.w.setRow g u4) (fQ hm hB u4) (by simp) (λ k _ qk=>setRow_other _ _ _ _ (λ e=>qk (e ▸ hg))) va (by simp) (λ g' iu=>by
    obtain rfl:g=g':=by simpa using iu
    refine ⟨hB,.inr hg,u4,e',setRow_heap _ _ _ _ _ _ hh,λ i' cs q5 j c hj => ?_⟩;show ∃ u,u4[i'*a8+j]? = some u/\_;by_cases fg:i'<len
    ·rw[List.getElem?_append_left (by omega),List.getElem?_take,if_pos fg]at q5
     have ek:j<a8:=by rw[<-im,<-Ci cs (zM q5)];exact (zS hj).1
     obtain ⟨u,jl,dv⟩:=y7 i' cs q5 j c hj;refine ⟨u,?_,dv⟩;have:(i'+1)*a8<=len*a8:=zR _ fg
     rw[Nat.succ_mul]at this;rw[df,if_pos (by omega),<-jl,im]
    ·rw[List.getElem?_append_right (by omega),fo]at q5
     obtain ⟨u,jl,dv⟩:=de.rel (i'-len) cs q5 j c hj;refine ⟨u,?_,dv⟩;have jm:=(zS jl).1;have e1:i'*a8=len*a8+(i'-len)*a8:=by rw[<-Nat.add_mul];congr 1;omega
     rw[df,if_neg (by omega),if_pos (by omega),<-jl];congr 1;omega)
   exact O4 (U6 k9 (by rw[bf,rn,wc];exact q6)) (hK _ ⟨j5 m s' (some g),m.own.put s' (((m.own s').o9 t none).new ⟨a8,b.es.take len++ys⟩),m.w.setRow g u4⟩ rfl k1 k2 (nX h0 sv (setRow_heap _ _ _ _ _ _ hh) (by rw[na];simpa using Et)))
 ·have uf:cap<len+ys.length:=by omega
  obtain ⟨cq,Cs,hold,Gb⟩ : ∃ cq:List Value,cq.length=len*a8/\(Builtin.firstCells i.size len (.slice ad len cap)).run P m.w.drew = .ok cq.toArray m.w.drew/\(∀ i' cs,(b.es.take len)[i']? = some cs -> ∀ j c,cs[j]? = some c -> ∃ u,cq[i'*a8+j]? = some u/\CC B S m c u):=by
   rcases dh with ⟨rl,fy⟩|⟨g,arr,e',hg,jc,hh,Et⟩
   ·subst rl
    refine ⟨[],by simp,?_,λ i' cs q5=>by simp at q5⟩;cases ad with
    | none=>exact run_firstCells_none m.w.drew i.size 0 0 cap
    | some xx=>exact run_firstCells_some m.w.drew i.size 0 xx 0 cap [] (by simp) (λ j v hv=>by simp at hv)
   ·have wc:ad=some ⟨g,0,none⟩:=by simpa using jc
    rw[hg]at bt;obtain ⟨hB,pg,e2,ug,y7⟩:=bt;rw[hh]at ug;obtain ⟨rfl,rfl⟩:arr=pg/\e'=e2:=by simpa using ug
    have j6:len*a8<=arr.size:=by
     have:len*a8<=(0+cap)*a8:=zR _ (by omega)
     omega
    refine ⟨arr.toList.take (len*a8),by simp;omega,?_,λ i' cs q5 j c hj => ?_⟩
    ·rw[wc]
     refine run_firstCells_some m.w.drew i.size len ⟨g,0,none⟩ len cap _ (by rw[v5];simp;omega) (λ j v hv => ?_);rw[List.getElem?_take]at hv;split at hv
     ·rw[G5,WB (w:=m.w.drew) (show m.w.heap[g]? = _ from hh)]
      simpa using hv
     ·cases hv
    ·rw[List.getElem?_take]at q5
     split at q5
     ·rename_i fg
      have ek:j<a8:=by rw[<-im,<-Ci cs (zM q5)];exact (zS hj).1
      obtain ⟨u,jl,dv⟩:=y7 i' cs q5 j c hj;refine ⟨u,?_,dv⟩;have:(i'+1)*a8<=len*a8:=zR _ fg
      rw[Nat.succ_mul]at this;rw[List.getElem?_take,if_pos (by omega),<-jl,im];simp
     ·cases q5
  have q6:=run_append_grow_src (P:=P) m.w ty tx o.type e i z hu hi bu ad len cap cq hold (.slice vk ys.length ij) ys.length news oe uf (by omega) (growslice_fits uf (by rw[nk];exact km));have ym:news.length=ys.length*a8:=de.len;have aw:len+ys.length<=grownCap m.w (len+ys.length) cap e:=grownCap_ge _ _ _ _;generalize Cm:grownCap m.w (len+ys.length) cap e=gc at q6 aw;have fx:=wK hm (.cells ((cq++news).toArray++Builtin.zeroCells z.cells (gc-(len+ys.length))) e);have ji:(m.w.drew.alloc (.cells ((cq++news).toArray++Builtin.zeroCells z.cells (gc-(len+ys.length))) e)).heap[m.w.heap.size]? = some (.cells ((cq++news).toArray++Builtin.zeroCells z.cells (gc-(len+ys.length))) e (0,0)):=heap_alloc_new m.w.drew _;obtain ⟨k1,k2⟩:=bS hm s' t b ⟨a8,b.es.take len++ys⟩ o4 (some m.w.heap.size) _ fx (by simp) (λ k hk _=>Below.heap_alloc m.w.drew _ k hk) va (by simp) (λ g' iu=>by
   obtain rfl:m.w.heap.size=g':=by simpa using iu
   refine ⟨hm.size,.inl (Nat.le_refl _),_,e,ji,λ i' cs q5 j c hj => ?_⟩;obtain ⟨u,jl,dv⟩:=Ta fo Cs (λ q hq=>by rw[<-im];exact Ci q (List.mem_of_mem_take hq)) Gb de.rel i' cs q5 j c hj;refine ⟨u,?_,dv⟩;rw[Od _ _ _ _ _ (by have:=(zS jl).1;simpa using this)];exact jl)
  refine O4 (U6 k9 (by rw[bf,rn];exact q6)) (hK _ ⟨j5 m s' (some m.w.heap.size),m.own.put s' (((m.own s').o9 t none).new ⟨a8,b.es.take len++ys⟩),_⟩ rfl k1 k2 (nX h0 aw ji ?_));have Bp:(Builtin.zeroCells z.cells (gc-(len+ys.length))).size=(gc-(len+ys.length))*a8:=by simp [Builtin.zeroCells,gj]
  rw[Array.size_append,Bp];simp only[List.size_toArray,List.length_append,Cs,ym];rw[<-Nat.add_mul,<-Nat.add_mul];exact zR _ (by omega)
theorem iJ (hm:BR B S w0 m) (hs:CX B S m ρ a.eval) {s a8 bytes:Nat} {x' y':AP} (h:BB P num o.op (.app s a8 bytes x' y')=true) {ys:List (List AV)} (hy:EJ m.own (ρ y')=some ys) (hz : ∀ e∈ys,e.length=a8) (hx:ρ x' = .nil)
  (km:ys.length*bytes<=EQ) (Dr:ys.length<=9223372036854775807) :
  CY B S w0 P o a m (.cr (.row s (m.own.g8 s) a8 0 ys.length) (m.own.put s ((m.own s).new ⟨a8,ys⟩))):=by
 obtain ⟨x,y,ty,e,i,z,tx,ex,k9,h1,h2,hu,hi,v5,nk,bu,gj,m8,yz⟩:=mK h;have h0:0<a8:=Nat.pos_of_ne_zero m8;have bf:=R5 (hx ▸ hs x x' h1);obtain ⟨vk,ij,news,rn,de⟩:=ZV hm (hs y y' h2) hy hz h0;have oe:Src P i.size tx (.slice vk ys.length ij) ys.length news m.w:=by rw[v5];exact de.src h0 hz yz ij
 intro K Q hK;by_cases tj:ys=[]
 ·subst tj
  have sz:news=[]:=List.eq_nil_of_length_eq_zero (by simpa using de.len);subst sz;have q6:=pQ ty tx e ex i hu yz hi none 0 (.slice vk 0 ij) m.w (by simpa using oe) o.type;obtain ⟨k1,k2⟩:=rO hm s a8;refine O4 (U6 k9 (by rw[bf,rn];simpa using q6)) (hK _ ⟨j5 m s none,m.own.put s ((m.own s).new ⟨a8,[]⟩),m.w⟩ rfl k1 k2 (.ca (.one (.row s (m.own.g8 s) a8 0 0 none 0 ?_ h0 (Nat.le_refl _) (λ h=>by omega) λ b' k8=>⟨?_,.inl ⟨rfl,rfl⟩⟩))))
  ·show _<AH.g8 _ s
   rw[J7];simp
  ·change AH.get _ s _=some b' at k8
   rw[F4,if_pos ⟨rfl,rfl⟩]at k8;obtain rfl:(⟨a8,[]⟩:DZ)=b':=by simpa using k8
   rfl
 ·have oc:0<ys.length:=List.length_pos_iff.2 tj
  have q6:=run_append_grow_src (P:=P) m.w ty tx o.type e i z hu hi bu none 0 0 [] (run_firstCells_none m.w.drew i.size 0 0 0) (.slice vk ys.length ij) ys.length news oe (by omega) (by omega) (growslice_fits (by omega) (by rw[nk,Nat.zero_add];exact km));simp only[Nat.zero_add,List.nil_append]at q6;have ym:news.length=ys.length*a8:=de.len;have aw:ys.length<=grownCap m.w ys.length 0 e:=grownCap_ge _ _ _ _;generalize Cm:grownCap m.w ys.length 0 e=gc at q6 aw;have hd:Below m.w.heap.size m.w m.w.drew:=(Below.refl _ _).drew;obtain ⟨gf,Ak⟩:=grow hm hd;obtain ⟨k1,k2⟩:=Y3 gf s ⟨a8,ys⟩ (news.toArray++Builtin.zeroCells z.cells (gc-ys.length)) e hz (λ i' cs q5 j c hj=>by
   obtain ⟨u,jl,dv⟩:=de.rel i' cs q5 j c hj;refine ⟨u,?_,Ak.cc dv⟩;have jm:=(zS jl).1;show (news.toArray++Builtin.zeroCells z.cells (gc-ys.length))[i'*a8+j]? = some u;rw[Array.getElem?_append_left (by simpa using jm)];simpa using jl)
  have Bp:(Builtin.zeroCells z.cells (gc-ys.length)).size=(gc-ys.length)*a8:=by simp [Builtin.zeroCells,gj]
  refine O4 (U6 k9 (by rw[bf,rn];exact q6)) (hK _ ⟨j5 ⟨m.ν,m.own,m.w.drew⟩ s (some m.w.drew.heap.size),m.own.put s ((m.own s).new ⟨a8,ys⟩),_⟩ rfl k1 (Ak.trans k2) (oH (m:=⟨m.ν,m.own,m.w.drew⟩) h0 aw (heap_alloc_new m.w.drew _) ?_));rw[Array.size_append,Bp];simp only[List.size_toArray,ym];rw[<-Nat.add_mul];exact zR _ (by omega)
end
end Go.e9

namespace Go.e9
open Go.RowKit
section
variable {B:Nat} {S:Nat->Prop} {w0:World} {m:M}
variable {P:Program} {num:Nat->Nat} {o:Oper} {a:Act} {ρ:AP->AV}
structure GS (P:Program) (num:Nat->Nat) (C:Cl):Prop where
 pn : ∀ (f:Nat) (vs:List AV) (r:AV),C.pure f vs=some r -> ∀ (us:Array Value) (w:World),(callFunc (num f) us).run P w = .ok (.enter (num f) us) w
 mo : ∀ (f:Nat) (vs:List AV) (own:AH) (r:AV × AH),C.fi f vs own=some r -> ∀ (us:Array Value) (w:World),(callFunc (num f) us).run P w = .ok (.enter (num f) us) w
 pure : ∀ (f:Nat) (vs:List AV) (r:AV),C.pure f vs=some r -> ∀ (S:Nat->Prop) (w:World) (us:List Value),vs.length=us.length->(∀ (j:Nat) (c:AV) (v:Value),vs[j]? = some c->us[j]? = some v->CA w.heap.size S ⟨λ_ _=>none,AH.emp,w⟩ c v) ->
  Calls P (num f) us.toArray w λ e w' => ∃ u,e = .returned u/\Below w.heap.size w w'/\CV w.heap.size S ⟨λ_ _=>none,AH.emp,w'⟩ r u/\A6 r
 fi : ∀ (f:Nat) (vs:List AV) (own:AH) (r:AV) (l8:AH),C.fi f vs own=some (r,l8) -> ∀ (B:Nat) (S:Nat->Prop) (w0:World) (m:M) (us:List Value),m.own=own->BR B S w0 m->vs.length=us.length->(∀ (j:Nat) (c:AV) (v:Value),vs[j]? = some c->us[j]? = some v->CV B S m c v) ->
  Calls P (num f) us.toArray m.w λ e w' => ∃ u m',e = .returned u/\m'.w=w'/\m'.own=l8/\BR B S w0 m'/\DI B S m m'/\CV B S m' r u
 num:C.num=num
end
end Go.e9
