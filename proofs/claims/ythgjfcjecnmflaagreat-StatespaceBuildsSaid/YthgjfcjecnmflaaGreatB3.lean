/-
  What the checker has seen, operation by operation.
-/
import Derived.Test.YthgjfcjecnmflaaGreatB2
import Derived.Laws.StructEq
import Derived.ChangeKeysEq
import Derived.Laws.Slices
set_option linter.unusedSimpArgs false
set_option linter.unusedVariables false
set_option linter.unnecessarySimpa false
namespace Go.e6
section
variable {P:Program} {num:Nat->Nat} {op:Op}
theorem Ahf {y:BH} (h:CH P num op (.a7 y)=true) : ∃ x,(op = .move x\/op = .assign x)/\DD x y=true:=by
 cases op with
 | move x=>exact ⟨x,.inl rfl,h⟩
 | assign x=>exact ⟨x,.inr rfl,h⟩
 | _=>exact Bool.noConfusion h
theorem Ahl {s z:Nat} (h:CH P num op (.cn s z)=true):(op = .move (.const (.slice none 0 0))\/op = .assign (.const (.slice none 0 0)))/\z≠0:=by
 simp only[CH,Bool.and_eq_true,bne_iff_ne]at h;refine ⟨?_,h.1⟩;have h2:=h.2;split at h2<;>simp_all
theorem Ahg {c' a' b':BH} (h:CH P num op (.pick c' a' b')=true) : ∃ c a b,op = .pick c a b/\DD c c'=true/\DD a a'=true/\DD b b'=true:=by
 cases op with
 | pick c a b=>simp only[CH,Bool.and_eq_true]at h;exact ⟨c,a,b,rfl,h.1.1,h.1.2,h.2⟩
 | _=>exact Bool.noConfusion h
theorem Ag0 {f:BinOp} {x' y':BH} (h:CH P num op (.bin f x' y')=true) : ∃ t x y u,op = .binOp f t x y u/\DD x x'=true/\DD y y'=true:=by
 cases op with
 | binOp f' t x y u =>
  simp only[CH,Bool.and_eq_true,beq_iff_eq]at h;exact ⟨t,x,y,u,by rw[h.1.1],h.1.2,h.2⟩
 | _=>exact Bool.noConfusion h
theorem AgZ {ne:Bool} {x' y':BH} (h:CH P num op (.beq ne x' y')=true) : ∃ t x y u,op = .binOp (if ne then .neq else .eql) t x y u/\P.underlying t=some .bool/\DD x x'=true/\DD y y'=true:=by
 cases op with
 | binOp f' t x y u =>
  simp only[CH,Bool.and_eq_true]at h;obtain ⟨⟨⟨h1,h2⟩,h3⟩,h4⟩:=h;refine ⟨t,x,y,u,?_,?_,h3,h4⟩
  ·cases ne<;>simp_all
  ·split at h2<;>simp_all
 | _=>exact Bool.noConfusion h
theorem Ahk {f:UnOp} {x':BH} (h:CH P num op (.un f x')=true) : ∃ t x,op = .unOp f t x/\DD x x'=true:=by
 cases op with
 | unOp f' t x =>
  simp only[CH,Bool.and_eq_true,beq_iff_eq]at h;exact ⟨t,x,by rw[h.1],h.2⟩
 | _=>exact Bool.noConfusion h
theorem Ag8 {k:IntKind} {x':BH} (h:CH P num op (.conv k x')=true) : ∃ s d x ds,op = .convert s d x/\P.underlying s=some ds/\P.underlying d=some (.int k)/\DD x x'=true:=by
 cases op with
 | convert s d x =>
  simp only[CH,Bool.and_eq_true]at h;obtain ⟨⟨h1,h2⟩,h3⟩:=h;obtain ⟨ds,Bc⟩:=Option.isSome_iff_exists.1 h1;refine ⟨s,d,x,ds,rfl,Bc,?_,h3⟩;split at h2<;>simp_all
 | _=>exact Bool.noConfusion h
theorem Ag1 {s:Nat} {x':BH} (h:CH P num op (.box s x')=true) : ∃ t x,op = .box t x/\DD x x'=true:=by
 cases op with
 | box t x=>exact ⟨t,x,rfl,h⟩
 | _=>exact Bool.noConfusion h
theorem AgY {s:Nat} {z:List AV} (h:CH P num op (.alloc s z)=true) : ∃ t,op = .alloc t/\ZG P t z=true:=by
 cases op with
 | alloc t=>exact ⟨t,rfl,h⟩
 | _=>exact Bool.noConfusion h
theorem Ag3 {z:List AV} {ep:List (Nat × Nat × BH)} (h:CH P num op (.build z ep)=true) : ∃ t ps,op = .build t ps/\ZG P t z=true/\lJ P t ps.toList ep=true:=by
 cases op with
 | build t ps=>simp only[CH,Bool.and_eq_true]at h;exact ⟨t,ps,rfl,h.1,h.2⟩
 | _=>exact Bool.noConfusion h
theorem Y6 {t:TypeId} {f:TypeId->Bool} (h:UM P t f=true) : ∃ e,P.underlying t=some (.slice e)/\f e=true:=by
 unfold UM at h;split at h
 ·rename_i e he;exact ⟨e,he,h⟩
 ·cases h
theorem VS {t:TypeId} {n:Nat} (h:P6 P t n=true) : ∃ i,P.info? t=some i/\i.size=n:=by
 unfold P6 at h;split at h
 ·rename_i i hi;exact ⟨i,hi,by simpa using h⟩
 ·cases h
theorem tN {t:TypeId} {n:Nat} (h:fW P t n=true) : ∃ i,P.info? t=some i/\i.bytes=n:=by
 unfold fW at h;split at h
 ·rename_i i hi;exact ⟨i,hi,by simpa using h⟩
 ·cases h
theorem rP {t:TypeId} {l:List AV} (h:ZG P t l=true) : ∃ i z,P.info? t=some i/\i.zero=some z/\WB z.cells.toList l=true:=by
 unfold ZG at h;split at h
 ·rename_i i hi
  split at h
  ·rename_i z hz;exact ⟨i,z,hi,hz,h⟩
  ·cases h
 ·cases h
theorem kU {t:TypeId} {b:Bool} (h:(ZM P t == some b)=true) : ∀ w,(isAgg t).run P w = .ok b w:=by
 intro w;have h':ZM P t=some b:=by simpa using h
 unfold ZM at h';unfold isAgg;cases hu:P.underlying t with
 | none=>rw[hu]at h';cases h'
 | some d =>
  rw[hu]at h';rw[Sem.run_bind,run_underlying hu];cases d<;>simp_all<;>rfl
theorem Pp {e:TypeId} {n:Nat} (h:(match P.info? e with|some i=>(match i.zero with|some z=>z.cells.size == n|none=>false)|none=>false)=true) : ∃ i z,P.info? e=some i/\i.zero=some z/\z.cells.size=n:=by
 split at h
 ·rename_i i hi
  split at h
  ·rename_i z hz;exact ⟨i,z,hi,hz,by simpa using h⟩
  ·cases h
 ·cases h
theorem Ag2 {s b9:Nat} {ep:List BH} (h:CH P num op (.e5 s b9 ep)=true) : ∃ t n ps e i,op = .buildSlice t n ps/\P.underlying t=some (.slice e)/\P.info? e=some i/\i.size=b9/\b9≠0/\n=ep.length/\n*b9<=16777216/\YG 0 ps.toList ep=true/\(n=0 \/ ∃ z,i.zero=some z/\z.cells.size=b9):=by
 cases op with
 | buildSlice t n ps =>
  simp only[CH,Bool.and_eq_true,decide_eq_true_eq,bne_iff_ne,beq_iff_eq,Bool.or_eq_true]at h;obtain ⟨⟨⟨⟨⟨h1,h2⟩,h3⟩,h4⟩,h5⟩,h6⟩:=h;obtain ⟨e,he,h1⟩:=Y6 h1;obtain ⟨i,hi,hs⟩:=VS h1;refine ⟨t,n,ps,e,i,rfl,he,hi,hs,h2,h3,h4,h5,h6.imp id λ h6 => ?_⟩;obtain ⟨e',iw,h6⟩:=Y6 h6;rw[he]at iw;obtain rfl:e=e':=by simpa using iw
  obtain ⟨i',z,o9,hz,Bq⟩:=Pp h6;rw[hi]at o9;obtain rfl:i=i':=by simpa using o9
  exact ⟨z,hz,Bq⟩
 | _=>exact Bool.noConfusion h
theorem yU {x':BH} {off:Nat} (h:CH P num op (.a5 x' off)=true) : ∃ t x f fs fd i,op = .fieldAddr t x f/\DD x x'=true/\P.underlying t=some (.struct fs)/\fs[f]? = some fd/\fd.offset=off/\P.info? fd.type=some i/\i.size≠0:=by
 cases op with
 | fieldAddr t x f =>
  simp only[CH,Bool.and_eq_true]at h;obtain ⟨h1,h2⟩:=h;split at h2
  ·rename_i fs me
   split at h2
   ·rename_i fd Gu
    simp only[Bool.and_eq_true,beq_iff_eq]at h2;obtain ⟨h3,h4⟩:=h2;split at h4
    ·rename_i i hi
     exact ⟨t,x,f,fs,fd,i,rfl,h1,me,Gu,h3,hi,by simpa using h4⟩
    ·cases h4
   ·cases h2
  ·cases h2
 | _=>exact Bool.noConfusion h
theorem Aha {x':BH} {off n:Nat} {agg:Bool} (h:CH P num op (.oi x' off n agg)=true) : ∃ t x f fs fd i,op = .field t x f/\DD x x'=true/\P.underlying t=some (.struct fs)/\fs[f]? = some fd/\fd.offset=off/\P.info? fd.type=some i/\i.size=n/\(∀ w,(isAgg fd.type).run P w = .ok agg w)/\n≠0:=by
 cases op with
 | field t x f =>
  simp only[CH,Bool.and_eq_true]at h;obtain ⟨⟨h1,h2⟩,h3⟩:=h;unfold xL at h2;unfold xM at h3;split at h2
  ·rename_i fs me
   split at h2
   ·rename_i fd Gu
    simp only[Bool.and_eq_true,beq_iff_eq,bne_iff_ne]at h2;obtain ⟨⟨h4,h5⟩,h6⟩:=h2;obtain ⟨i,hi,hs⟩:=VS h5;rw[me]at h3;simp only[Gu]at h3;exact ⟨t,x,f,fs,fd,i,rfl,h1,me,Gu,h4,hi,hs,kU h3,h6⟩
   ·cases h2
  ·cases h2
 | _=>exact Bool.noConfusion h
theorem iD {arr:Option Nat} {b9:Nat} {x' i':BH} (h:CH P num op (.a9 arr b9 x' i')=true) : ∃ t x i e inf,op = .indexAddr t x i/\DD x x'=true/\DD i i'=true/\P.info? e=some inf/\inf.size=b9 /\
  ((∃ len,arr=some len/\P.underlying t=some (.array len e)/\1<len)\/(arr=none/\P.underlying t=some (.slice e)/\b9≠0)):=by
 cases op with
 | indexAddr t x i =>
  simp only[CH,Bool.and_eq_true]at h;obtain ⟨⟨h1,h2⟩,h3⟩:=h;split at h3
  ·rename_i len e rq hu
   simp only[Bool.and_eq_true,beq_iff_eq,decide_eq_true_eq]at h3;obtain ⟨⟨h4,h5⟩,h6⟩:=h3;obtain ⟨inf,hi,hs⟩:=VS h5;exact ⟨t,x,i,e,inf,rfl,h1,h2,hi,hs,.inl ⟨len,by rw[h4],hu,h6⟩⟩
  ·rename_i e hu
   simp only[Bool.and_eq_true,bne_iff_ne]at h3;obtain ⟨inf,hi,hs⟩:=VS h3.1;exact ⟨t,x,i,e,inf,rfl,h1,h2,hi,hs,.inr ⟨rfl,hu,h3.2⟩⟩
  ·cases h3
 | _=>exact Bool.noConfusion h
theorem yV {agg:Bool} {n:Nat} {x':BH} (h:CH P num op (.ld agg n x')=true) : ∃ t x,op = .load t x/\DD x x'=true/\(∀ w,(isAgg t).run P w = .ok agg w)/\(if agg then ∃ i,P.info? t=some i/\i.size=n else n=1):=by
 cases op with
 | load t x =>
  simp only[CH,Bool.and_eq_true]at h;obtain ⟨⟨h1,h2⟩,h3⟩:=h;refine ⟨t,x,rfl,h1,kU h2,?_⟩;cases agg
  ·simpa using h3
  ·exact VS (by simpa using h3)
 | _=>exact Bool.noConfusion h
theorem Ahi {n:Nat} {x' v':BH} (h:CH P num op (.st n x' v')=true) : ∃ t x v i,op = .store t x v/\DD x x'=true/\DD v v'=true/\P.info? t=some i/\i.size=n:=by
 cases op with
 | store t x v =>
  simp only[CH,Bool.and_eq_true]at h;obtain ⟨⟨h1,h2⟩,h3⟩:=h;obtain ⟨i,hi,hs⟩:=VS h3;exact ⟨t,x,v,i,rfl,h1,h2,hi,hs⟩
 | _=>exact Bool.noConfusion h
theorem Ahd {s b9 bytes:Nat} {zero:List AV} {l' c':BH} (h:CH P num op (.mk s b9 bytes zero l' c')=true) : ∃ t l c e i z,op = .makeSlice t l c/\DD l l'=true/\DD c c'=true/\P.underlying t=some (.slice e)/\P.info? e=some i/\i.size=b9/\i.bytes=bytes/\i.zero=some z/\WB z.cells.toList zero=true/\b9≠0:=by
 cases op with
 | makeSlice t l c =>
  simp only[CH,Bool.and_eq_true,bne_iff_ne]at h;obtain ⟨⟨⟨h1,h2⟩,h3⟩,h4⟩:=h;obtain ⟨e,he,h3⟩:=Y6 h3;simp only[Bool.and_eq_true]at h3;obtain ⟨⟨h5,h6⟩,h7⟩:=h3;obtain ⟨i,hi,hs⟩:=VS h5;obtain ⟨i2,zr,zz⟩:=tN h6;obtain ⟨i3,z,Ex,hz,jt⟩:=rP h7;rw[hi]at zr Ex;obtain rfl:i=i2:=by simpa using zr
  obtain rfl:i=i3:=by simpa using Ex
  exact ⟨t,l,c,e,i,z,rfl,h1,h2,he,hi,hs,zz,hz,jt,h4⟩
 | _=>exact Bool.noConfusion h
theorem oV {b9:Nat} {x':BH} {nx o9:Option BH} (h:CH P num op (.ig b9 x' nx o9)=true) : ∃ t x lo hi e i,op = .slice t x lo hi none/\DD x x'=true/\VG lo nx=true/\VG hi o9=true/\P.underlying t=some (.slice e)/\P.info? e=some i/\i.size=b9/\b9≠0:=by
 cases op with
 | slice t x lo hi mx =>
  cases mx with
  | some _=>exact Bool.noConfusion h
  | none =>
   simp only[CH,Bool.and_eq_true,bne_iff_ne]at h;obtain ⟨⟨⟨⟨h1,h2⟩,h3⟩,h4⟩,h5⟩:=h;obtain ⟨e,he,h4⟩:=Y6 h4;obtain ⟨i,o9,hs⟩:=VS h4;exact ⟨t,x,lo,hi,e,i,rfl,h1,h2,h3,he,o9,hs,h5⟩
 | _=>exact Bool.noConfusion h
theorem Ag9 {x':BH} {i:Nat} (h:CH P num op (.ext x' i)=true) : ∃ x,op = .extract x i/\DD x x'=true:=by
 cases op with
 | extract x j =>
  simp only[CH,Bool.and_eq_true,beq_iff_eq]at h;exact ⟨x,by rw[h.2],h.1⟩
 | _=>exact Bool.noConfusion h
theorem Qt {α:Type} {xs:Array α} {x y:α} (h:xs.toList=[x,y]):xs = #[x,y]:=by cases xs;simp_all
theorem Qs {α:Type} {xs:Array α} {x:α} (h:xs.toList=[x]):xs = #[x]:=by cases xs;simp_all
theorem Ahc {x':BH} (h:CH P num op (.len x')=true) : ∃ x t e,op = .call ⟨.builtin .len,#[x],#[t]⟩/\DD x x'=true/\P.underlying t=some (.slice e):=by
 cases op with
 | call c =>
  obtain ⟨cl,xs,ts⟩:=c;cases cl with
  | builtin b =>
   cases b<;>first|exact Bool.noConfusion h|skip
   simp only[CH]at h;split at h
   ·rename_i x t hx ht
    simp only[Bool.and_eq_true]at h;obtain ⟨e,he,_⟩:=Y6 h.2;exact ⟨x,t,e,by rw[Qs hx,Qs ht],h.1,he⟩
   ·cases h
  | value f=>cases f<;>exact Bool.noConfusion h
  | invoke=>exact Bool.noConfusion h
 | _=>exact Bool.noConfusion h
theorem yW {mx:Bool} {n9:List BH} (h:CH P num op (.mm mx n9)=true) : ∃ xs ts,op = .call ⟨.builtin (if mx then .max else .min),xs,ts⟩/\GK xs.toList n9=true:=by
 cases op with
 | call c =>
  obtain ⟨cl,xs,ts⟩:=c;cases cl with
  | builtin b =>
   cases b<;>first|exact Bool.noConfusion h|skip
   all_goals
    simp only[CH,Bool.and_eq_true]at h;refine ⟨xs,ts,?_,h.2⟩;cases mx<;>simp_all
  | value f=>cases f<;>exact Bool.noConfusion h
  | invoke=>exact Bool.noConfusion h
 | _=>exact Bool.noConfusion h
theorem yS {s b9 bytes:Nat} {x' y':BH} (h:CH P num op (.app s b9 bytes x' y')=true) : ∃ x y t e i z tx ex,op = .call ⟨.builtin .append,#[x,y],#[t,tx]⟩/\DD x x'=true/\DD y y'=true/\P.underlying t=some (.slice e)/\P.info? e=some i/\i.size=b9/\i.bytes=bytes/\i.zero=some z/\z.cells.size=b9/\b9≠0/\P.underlying tx=some (.slice ex):=by
 cases op with
 | call c =>
  obtain ⟨cl,xs,ts⟩:=c;cases cl with
  | builtin b =>
   cases b<;>first|exact Bool.noConfusion h|skip
   simp only[CH]at h;split at h
   ·rename_i x y t u hx ht
    simp only[Bool.and_eq_true,beq_iff_eq,bne_iff_ne]at h;obtain ⟨⟨⟨⟨h1,h2⟩,h3⟩,h4⟩,h5⟩:=h;obtain ⟨e,he,h3⟩:=Y6 h3;simp only[Bool.and_eq_true]at h3;obtain ⟨⟨h6,h7⟩,h8⟩:=h3;obtain ⟨i,hi,hs⟩:=VS h6;obtain ⟨i2,zr,zz⟩:=tN h7;obtain ⟨i3,z,Ex,hz,jt⟩:=Pp h8;rw[hi]at zr Ex;obtain rfl:i=i2:=by simpa using zr
    obtain rfl:i=i3:=by simpa using Ex
    obtain ⟨ex,hex,_⟩:=Y6 h5;exact ⟨x,y,t,e,i,z,u,ex,by rw[Qt hx,Qt ht],h1,h2,he,hi,hs,zz,hz,jt,h4,hex⟩
   ·cases h
  | value f=>cases f<;>exact Bool.noConfusion h
  | invoke=>exact Bool.noConfusion h
 | _=>exact Bool.noConfusion h
theorem oT {f:Nat} {n9:List BH} (h:CH P num op (.call f n9)=true) : ∃ xs ts,op = .call ⟨.value (.func (num f)),xs,ts⟩/\GK xs.toList n9=true:=by
 cases op with
 | call c =>
  obtain ⟨cl,xs,ts⟩:=c;cases cl with
  | builtin b=>cases b<;>exact Bool.noConfusion h
  | value g =>
   cases g with
   | func g =>
    simp only[CH,Bool.and_eq_true,beq_iff_eq]at h;exact ⟨xs,ts,by rw[h.1],h.2⟩
   | _=>exact Bool.noConfusion h
  | invoke=>exact Bool.noConfusion h
 | _=>exact Bool.noConfusion h
theorem Ag4 {f:Nat} {n9:List BH} (h:CH P num op (.g7 f n9)=true) : ∃ xs ts,op = .call ⟨.value (.func (num f)),xs,ts⟩/\GK xs.toList n9=true:=by
 cases op with
 | call c =>
  obtain ⟨cl,xs,ts⟩:=c;cases cl with
  | builtin b=>cases b<;>exact Bool.noConfusion h
  | value g =>
   cases g with
   | func g =>
    simp only[CH,Bool.and_eq_true,beq_iff_eq]at h;exact ⟨xs,ts,by rw[h.1],h.2⟩
   | _=>exact Bool.noConfusion h
  | invoke=>exact Bool.noConfusion h
 | _=>exact Bool.noConfusion h
theorem Ag5 {f:Nat} {n9:List BH} (h:CH P num op (.m6 f n9)=true):CH P num op (.call f n9)=true:=by
 cases op<;>exact h
theorem AgX {ne:Bool} {n:Nat} {x' y':BH} (h:CH P num op (.oa ne n x' y')=true) : ∃ t x y u,op = .binOp (if ne then .neq else .eql) t x y u/\nY P t n=true/\DD x x'=true/\DD y y'=true:=by
 cases op with
 | binOp f' t x y u =>
  simp only[CH,Bool.and_eq_true]at h;obtain ⟨⟨⟨h1,h2⟩,h3⟩,h4⟩:=h;refine ⟨t,x,y,u,?_,h2,h3,h4⟩;cases ne<;>simp_all
 | _=>exact Bool.noConfusion h
theorem Ag7 {s f:Nat} {n9:List BH} (h:CH P num op (.cw s f n9)=true):CH P num op (.g7 f n9)=true:=by
 cases op<;>exact h
theorem Ag6 {s f:Nat} {n9:List BH} (h:CH P num op (.o8 s f n9)=true):CH P num op (.call f n9)=true:=by
 cases op<;>exact h
theorem Ahj {s n:Nat} {x' v':BH} (h:CH P num op (.nr s n x' v')=true):CH P num op (.st n x' v')=true:=by
 cases op<;>exact h
theorem Ahb {ne:Bool} {x':BH} (h:CH P num op (.rp ne x')=true) : ∃ t x u e,op = .binOp (if ne then .neq else .eql) t x (.const (.slice none 0 0)) u/\P.underlying t=some (.slice e)/\DD x x'=true:=by
 cases op with
 | binOp f' t x y u =>
  simp only[CH]at h;split at h
  ·rename_i heq
   simp only[Op.binOp.injEq]at heq;obtain ⟨rfl,rfl,rfl,rfl,rfl⟩:=heq;simp only[Bool.and_eq_true]at h;obtain ⟨⟨h1,h2⟩,h3⟩:=h;unfold UM at h2;split at h2
   ·rename_i e he
    refine ⟨t,x,u,e,?_,he,h3⟩;cases ne
    ·simp only[Bool.false_eq_true,if_false,beq_iff_eq]at h1;rw[h1];rfl
    ·simp only[if_true,beq_iff_eq]at h1;rw[h1];rfl
   ·cases h2
  ·cases h
 | _=>exact Bool.noConfusion h
theorem Ahh {tb:List Nat} {i':BH} (h:CH P num op (.gv tb i')=true) : ∃ t s i,op = .index t (.const (.string s)) i/\P.underlying t=some .string/\s.data.toList.map (λ b=>b.toNat)=tb/\DD i i'=true:=by
 cases op with
 | index t x i =>
  simp only[CH]at h;split at h
  ·rename_i heq
   simp only[Op.index.injEq]at heq;obtain ⟨rfl,rfl,rfl⟩:=heq;simp only[Bool.and_eq_true,beq_iff_eq]at h;obtain ⟨⟨h1,h2⟩,h3⟩:=h;exact ⟨_,_,_,rfl,by split at h1<;>simp_all,h2,h3⟩
  ·cases h
 | _=>exact Bool.noConfusion h
theorem Ahe {p:Bool} {f:Nat} {n9:List BH} (h:CH P num op (.pe p f n9)=true) : ∃ first xs,op = .makeFunc (.func (num f)) first xs/\first = #[]/\GK xs.toList n9=true:=by
 cases op with
 | makeFunc g first xs =>
  cases g with
  | func g =>
   simp only[CH,Bool.and_eq_true,beq_iff_eq]at h;obtain ⟨⟨rfl,h2⟩,h3⟩:=h;refine ⟨first,xs,rfl,?_,h3⟩;obtain ⟨l⟩:=first
   simp at h2;rw[h2]
  | _=>exact Bool.noConfusion h
 | _=>exact Bool.noConfusion h
theorem oU {x':BH} {n9:List BH} (h:CH P num op (.o3 x' n9)=true) : ∃ x xs ts,op = .call ⟨.value x,xs,ts⟩/\DD x x'=true/\GK xs.toList n9=true:=by
 cases op with
 | call c =>
  obtain ⟨cl,xs,ts⟩:=c;cases cl with
  | builtin b=>cases b<;>exact Bool.noConfusion h
  | value g =>
   simp only[CH,Bool.and_eq_true]at h;exact ⟨g,xs,ts,rfl,h.1,h.2⟩
  | invoke=>exact Bool.noConfusion h
 | _=>exact Bool.noConfusion h
end
end Go.e6
namespace Go.e6
open Go.RowKit
def DS.ah:DS->BC->BC
 | .val _,o=>o
 | .new s b _,o=>o.put s ((o s).new b)
 | .yv s b _,o=>o.put s ((o s).new b)
 | .dt _ o',_=>o'
 | .q6 s x,o=>o.put s x
 | .wm s x _,o=>o.put s x
def DS.valOf:DS->BC->AV
 | .val v,_=>v
 | .new s _ v,o=>v (o.j5 s)
 | .yv s _ v,o=>v (o.j5 s)
 | .dt v _,_=>v
 | .q6 _ _,_ => .g8 []
 | .wm _ _ v,_=>v
section
variable {B:Nat} {S:Nat->Prop} {w0:World} {m:M}
theorem OC {k:IntKind} {n:Int} {v:Value} (h:CV B S m (.int k n) v):v = .int k n:=by
 cases h with
 | ca h=>cases h with
  | one h=>cases h with
   | rd h=>cases h;rfl
theorem YD {b:Bool} {v:Value} (h:CV B S m (.bool b) v):v = .bool b:=by
 cases h with
 | ca h=>cases h with
  | one h=>cases h with
   | rd h=>cases h;rfl
theorem lS {cs:List AV} {v:Value} (h:CV B S m (.agg cs) v) : ∃ vs:List Value,v = .agg vs.toArray/\CL B S m cs vs:=by
 cases h with
 | ca h=>cases h with
  | one h=>cases h with
   | rd h=>cases h
  | agg _ vs h=>exact ⟨vs,rfl,h⟩
theorem mE {cs:List AV} {v:Value} (h:CV B S m (.g8 cs) v) : ∃ vs:List Value,v = .tuple vs.toArray/\cs.length=vs.length /\ ∀ (j:Nat) (c:AV) (u:Value),cs[j]? = some c->vs[j]? = some u->CA B S m c u:=by
 cases h with
 | ca h=>cases h with
  | one h=>cases h with
   | rd h=>cases h
 | g8 _ vs hl h=>exact ⟨vs,rfl,hl,h⟩
theorem XH (k:IntKind) (n:Int):CV B S m (.int k n) (.int k n):= .ca (.one (.rd (.int k n)))
theorem dM (b:Bool):CV B S m (.bool b) (.bool b):= .ca (.one (.rd (.bool b)))
theorem zX:CV B S m (.g8 []) undef := .g8 [] [] rfl (λ j c v h=>by simp at h)
theorem gI {a:AV} {cs:List AV} {v:Value} (h:CV B S m a v) (hc:cellsOf a=some cs):CL B S m cs v.cells.toList:=by
 cases h with
 | any v=>simp [cellsOf]at hc
 | g8=>simp [cellsOf]at hc
 | ca h=>cases h with
  | agg er vs h =>
   obtain rfl:er=cs:=by simpa [cellsOf] using hc
   simpa [Value.cells] using h
  | fn=>simp [cellsOf]at hc
  | tp=>simp [cellsOf]at hc
  | one h =>
   have h1:v.cells.toList=[v]:=by
    cases h with
    | rd h=>cases h<;>rfl
    | _=>rfl
   have h2:cs=[a]:=by
    cases h with
    | rd h=>cases h<;>simp [cellsOf]at hc<;>exact hc.symm
    | _=>simp [cellsOf]at hc;exact hc.symm
   rw[h1,h2];refine ⟨rfl,λ j c u hj hu => ?_⟩;cases j with
   | zero=>simp at hj hu;subst hj hu;exact h
   | succ j=>simp at hj
theorem Ady {cs:List AV} {vs:List Value} (h:CL B S m cs vs) : ∀ v∈vs,v.oneCell'=true:=by
 intro v hv;obtain ⟨j,hj,rfl⟩:=List.getElem_of_mem hv;have uq:j<cs.length:=by rw[h.1];exact hj
 exact (h.2 j cs[j] vs[j] (zE uq) (zE hj)).one
theorem Adz {cs:List AV} {vs:List Value} (h:CL B S m cs vs) (off n:Nat):CL B S m ((cs.drop off).take n) ((vs.drop off).take n):=by
 refine ⟨by simp [h.1],λ j c v hj hv => ?_⟩;rw[List.getElem?_take]at hj hv;split at hj
 ·rename_i l8
  rw[if_pos l8]at hv;rw[List.getElem?_drop]at hj hv;exact h.2 _ c v hj hv
 ·cases hj
theorem vU {v:Value} {a:AV} (h:gQ v a=true):CC B S m a v:=by
 unfold gQ at h;split at h
 ·simp only[Bool.and_eq_true,beq_iff_eq]at h
  obtain ⟨rfl,rfl⟩:=h;exact .rd (.int _ _)
 ·obtain rfl:_=_:=by simpa using h
  exact .rd (.bool _)
 ·exact .nil
 ·rename_i s s'
  obtain rfl:s=s':=by
   have h':s.data.toList=s'.data.toList:=by simpa using h
   obtain ⟨⟨l⟩⟩:=s;obtain ⟨⟨l'⟩⟩:=s';simp only at h';rw[h']
  exact .rd (.str _)
 ·exact .rd .lv
 ·cases h
theorem ZV : ∀ {vs:List Value} {cs:List AV},WB vs cs=true->CL B S m cs vs
 | [],[],_=>⟨rfl,λ j c v h=>by simp at h⟩
 | v::r,c::l,h=>by
  simp only[WB,Bool.and_eq_true]at h;have ih:=ZV (vs:=r) (cs:=l) h.2;refine ⟨by simp [ih.1],λ j c' v' hj hv => ?_⟩;cases j with
  | zero=>simp at hj hv;subst hj hv;exact vU h.1
  | succ j=>exact ih.2 j c' v' (by simpa using hj) (by simpa using hv)
 | [],_::_,h=>by simp [WB]at h
 | _::_,[],h=>by simp [WB]at h
theorem Ae5 {v:Value} {a:AV} (h:mR v a=true):CV B S m a v:=by
 unfold mR at h;split at h
 ·rename_i cs l
  have:=ZV (B:=B) (S:=S) (m:=m) h
  exact .ca (by simpa using CA.agg l cs.toList this)
 ·exact .ca (.one (vU h))
def D9 (B:Nat) (S:Nat->Prop) (m:M) (ρ:BH->AV) (e:Operand->Value):Prop := ∀ x y,DD x y=true->CV B S m (ρ y) (e x)
theorem AiD {T:Nat->AV} {a:Act} {ρ:BH->AV} (hρt : ∀ n,ρ (.t n)=T n) (Tf : ∀ v,ρ (.c v)=v) (h : ∀ i,CV B S m (T i) (a.tmps.getD i undef)):D9 B S m ρ a.eval:=by
 intro x y nk;unfold DD at nk;split at nk
 ·obtain rfl:_=_:=by simpa using nk
  rw[hρt];exact h _
 ·rw[Tf]
  exact Ae5 nk
 ·obtain rfl:_=_:=by simpa using nk
  rw[Tf];exact .ca (.fn _ _ _ [] [] (λ_=>rfl) ⟨rfl,λ j c v h=>by simp at h⟩)
 ·cases nk
variable {P:Program} {num:Nat->Nat} {o:Oper} {a:Act} {ρ:BH->AV} {K:Act->World->Prop} {Q:Exit->Act->World->Prop}
theorem WS {w w':World} {u:Value} (h:(execOp a.eval o).run P w = .ok (.value u) w') (hk:K (a.put o.dst u) w'):o.wp P a w K Q:=by
 unfold Oper.wp;rw[h];exact hk
theorem Ajr {w w':World} (h:(execOp a.eval o).run P w = .ok .skip w') (hk:K (a.put o.dst undef) w'):o.wp P a w K Q:=by
 unfold Oper.wp;rw[h];exact hk
def EG (B:Nat) (S:Nat->Prop) (w0:World) (P:Program) (o:Oper) (a:Act) (m:M) (E:DS):Prop :=
 ∀ (K:Act->World->Prop) (Q:Exit->Act->World->Prop),(∀ u m',m'.own=E.ah m.own->CY B S w0 m'->FP B S m m'->CV B S m' (E.valOf m.own) u->K (a.put o.dst u) m'.w)->o.wp P a m.w K Q
theorem GU (hm:CY B S w0 m) {v:AV} {u:Value} (h:(execOp a.eval o).run P m.w = .ok (.value u) m.w) (hc:CV B S m v u):EG B S w0 P o a m (.val v) :=
 λ K Q hK=>WS h (hK u m rfl hm (FP.refl m) hc)
theorem AeJ (hm:CY B S w0 m) (hs:D9 B S m ρ a.eval) {y:BH} (h:CH P num o.op (.a7 y)=true):EG B S w0 P o a m (.val (ρ y)):=by
 obtain ⟨x,hx,he⟩:=Ahf h;refine GU hm (u:=a.eval x) ?_ (hs x y he);rcases hx with hx|hx<;>simp [execOp,hx]
theorem AeP (hm:CY B S w0 m) {s z:Nat} (h:CH P num o.op (.cn s z)=true):EG B S w0 P o a m (.yv s ⟨z,[]⟩ (λ t => .row s t z 0 0)):=by
 obtain ⟨hx,hz⟩:=Ahl h;intro K Q hK;obtain ⟨h1,h2⟩:=Pk hm s z;refine WS (u := .slice none 0 0) (w':=m.w) ?_ (hK _ ⟨j8 m s none,m.own.put s ((m.own s).new ⟨z,[]⟩),m.w⟩ rfl h1 h2 ?_)
 ·rcases hx with hx|hx<;>simp [execOp,hx,Act.eval]
 ·refine .ca (.one (.row s (m.own.j5 s) z 0 0 none 0 ?_ (by omega) (Nat.le_refl _) (λ h=>by omega) λ b hb => ?_))
  ·show _<BC.j5 _ s
   rw[Q0];simp
  ·change BC.get _ s _=some b at hb
   rw[JU,if_pos ⟨rfl,rfl⟩]at hb;obtain rfl:(⟨z,[]⟩:GE)=b:=by simpa using hb
   exact ⟨rfl,.inl ⟨rfl,rfl⟩⟩
theorem vF (hm:CY B S w0 m) (hs:D9 B S m ρ a.eval) {c' a' b':BH} (h:CH P num o.op (.pick c' a' b')=true) {t:Bool} (hc:ρ c' = .bool t) :
  EG B S w0 P o a m (.val (if t then ρ a' else ρ b')):=by
 obtain ⟨c,x,y,l9,h1,h2,h3⟩:=Ahg h;have w5:=YD (hc ▸ hs c c' h1);refine GU hm (u:=if t then a.eval x else a.eval y) ?_ ?_
 ·cases t<;>simp [execOp,l9,w5,asBool]
 ·cases t
  ·exact hs y b' h3
  ·exact hs x a' h2
theorem Aiy (f:BinOp) (t:TypeId) (k k':IntKind) (x y:Int) (v:AV) (h:FH f k x k' y=some v) (w:World) : ∃ u,(binOp f t (.int k x) (.int k' y)).run P w = .ok u w/\((∃ n,v = .int k n/\u = .int k n) \/ ∃ b,v = .bool b/\u = .bool b):=by
 cases f<;>simp only[FH]at h;case shl =>
  split at h
  ·cases h
  ·rename_i hy;simp at h;subst h
   exact ⟨_,by simp [binOp,Op.shift,hy],.inl ⟨_,rfl,rfl⟩⟩
 case shr =>
  split at h
  ·cases h
  ·rename_i hy;simp at h;subst h
   exact ⟨_,by simp [binOp,Op.shift,hy],.inl ⟨_,rfl,rfl⟩⟩
 case quo =>
  split at h
  ·rename_i hy;obtain ⟨rfl,hy⟩:=hy;simp at h;subst h
   exact ⟨_,by simp [binOp,Op.intDiv,hy],.inl ⟨_,rfl,rfl⟩⟩
  ·cases h
 case rem =>
  split at h
  ·rename_i hy;obtain ⟨rfl,hy⟩:=hy;simp at h;subst h
   exact ⟨_,by simp [binOp,Op.intDiv,hy],.inl ⟨_,rfl,rfl⟩⟩
  ·cases h
 case and|or|xor|andNot =>
  all_goals
   split at h
   ·rename_i hk;subst hk;obtain rfl:=Option.some.inj h
    exact ⟨_,by simp only[binOp,ne_eq,not_true_eq_false,if_false];rfl,.inl ⟨_,rfl,rfl⟩⟩
   ·cases h
 case add|sub|mul =>
  all_goals
   split at h
   ·rename_i hk;subst hk;obtain rfl:=Option.some.inj h
    exact ⟨_,by simp [binOp,Op.intArith],.inl ⟨_,rfl,rfl⟩⟩
   ·cases h
 all_goals
  split at h
  ·rename_i hk;subst hk;obtain rfl:=Option.some.inj h
   exact ⟨_,by simp [binOp,Op.intCmp],.inr ⟨_,rfl,rfl⟩⟩
  ·cases h
theorem Ais (f:BinOp) (t:TypeId) (x y:Operand) (k k':IntKind) (n n':Int) (w:World):(eqGuard f t x y (.int k n) (.int k' n')).run P w = .ok () w:=by
 unfold eqGuard;cases f<;>simp
theorem Ait (f:BinOp) (t:TypeId) (x y:Operand) (b b':Bool) (w:World):(eqGuard f t x y (.bool b) (.bool b')).run P w = .ok () w:=by
 unfold eqGuard;cases f<;>simp
theorem Aej (hm:CY B S w0 m) (hs:D9 B S m ρ a.eval) {f:BinOp} {x' y':BH} (h:CH P num o.op (.bin f x' y')=true) {k k':IntKind} {n n':Int} {v:AV} (hx:ρ x' = .int k n) (hy:ρ y' = .int k' n') (hv:FH f k n k' n'=some v) :
  EG B S w0 P o a m (.val v):=by
 obtain ⟨t,x,y,u,l9,h1,h2⟩:=Ag0 h;have ex:=OC (hx ▸ hs x x' h1);have ey:=OC (hy ▸ hs y y' h2);obtain ⟨r,hr,ew⟩:=Aiy (P:=P) f t k k' n n' v hv m.w;refine GU hm (u:=r) ?_ ?_
 ·simp [execOp,l9,ex,ey,Ais,hr]
 ·rcases ew with ⟨q,rfl,rfl⟩|⟨q,rfl,rfl⟩
  ·exact XH _ _
  ·exact dM _
theorem Aiv (t:TypeId) (b b':Bool) (hu:P.underlying t=some .bool) (w:World):(Op.equal t (.bool b) (.bool b')).run P w = .ok (b == b') w:=by
 have h : ∀ d:Nat,(Op.equalIn (d+1) t (.bool b) (.bool b')).run P w = .ok (b == b') w:=λ d=>by
  unfold Op.equalIn;rw[Sem.run_bind,run_underlying hu];rfl
 exact h 9999
theorem Aei (hm:CY B S w0 m) (hs:D9 B S m ρ a.eval) {ne:Bool} {x' y':BH} (h:CH P num o.op (.beq ne x' y')=true) {b b':Bool} (hx:ρ x' = .bool b) (hy:ρ y' = .bool b') :
  EG B S w0 P o a m (.val (.bool (if ne then !(b == b') else b == b'))):=by
 obtain ⟨t,x,y,u,l9,hu,h1,h2⟩:=AgZ h;have ex:=YD (hx ▸ hs x x' h1);have ey:=YD (hy ▸ hs y y' h2);refine GU hm (u := .bool (if ne then !(b == b') else b == b')) ?_ (dM _);cases ne<;>simp [execOp,l9,ex,ey,Ait,binOp,Aiv t b b' hu]
theorem xN : ∀ {fs:List Field} {k n:Nat},fieldsI P k fs n=true->k<=n
 | [],k,n,h=>by simp only[fieldsI,beq_iff_eq]at h;omega
 | f::fs,k,n,h=>by
  simp only[fieldsI,Bool.and_eq_true]at h;have:=xN h.2
  omega
theorem Nl (d:Nat) (a b:List Int) (w:World) : ∀ {fs:List Field} {k:Nat},fieldsI P k fs a.length=true->b.length=a.length ->
  (Op.eqFields (d+1) (a.map (Value.int .i64)).toArray (b.map (Value.int .i64)).toArray fs).run P w = .ok (decide (a.drop k=b.drop k)) w
 | [],k,h,hl=>by
  simp only[fieldsI,beq_iff_eq]at h;rw[List.drop_of_length_le (by omega),List.drop_of_length_le (by omega)];simp [Op.eqFields]
 | f::fs,k,h,hl=>by
  simp only[fieldsI,Bool.and_eq_true,bne_iff_ne,beq_iff_eq]at h;obtain ⟨⟨⟨h1,h2⟩,h3⟩,h4⟩:=h;have hk:=xN h4;have hp:P.plainKey f.type=true:=by unfold Program.plainKey;split at h3<;>simp_all
  obtain ⟨kd,hu⟩ : ∃ kd,P.underlying f.type=some (.int kd):=by split at h3<;>simp_all
  have e1:(a.map (Value.int .i64)).toArray[f.offset]? = some (.int .i64 (a[k]'(by omega))):=by rw[h2];simp [zE (show k<a.length by omega)]
  have e2:(b.map (Value.int .i64)).toArray[f.offset]? = some (.int .i64 (b[k]'(by omega))):=by rw[h2];simp [zE (show k<b.length by omega)]
  have ih:=Nl d a b w h4 hl;have hd:(a.drop k=b.drop k)↔(a[k]'(by omega)=b[k]'(by omega)/\a.drop (k+1)=b.drop (k+1)):=by
   rw[List.drop_eq_getElem_cons (show k<a.length by omega),List.drop_eq_getElem_cons (show k<b.length by omega),List.cons.injEq]
  simp only[Op.eqFields,ne_eq,h1,not_false_eq_true,if_true,Sem.run_bind,run_part_plain w hp e1,run_part_plain w hp e2,Result.andThen_ok,run_equalIn_int w d f.type .i64 kd _ _ hu,Sem.run_ite];by_cases Cp:a[k]'(by omega)=b[k]'(by omega)
  ·simp [Cp,ih,hd]
  ·simp [Cp,hd]
theorem oR : ∀ {cs:List AV} {a:List Int} {vs:List Value},NV cs=some a->CL B S m cs vs->vs=a.map (Value.int .i64)
 | [],a,vs,h,hc=>by
  simp only[NV,Option.some.injEq]at h;subst h;have:=hc.1
  exact List.eq_nil_of_length_eq_zero (by simpa using this.symm)
 | c::r,a,vs,h,hc=>by
  cases vs with
  | nil=>have:=hc.1;simp at this
  | cons v vs =>
   cases c with
   | int k n =>
    cases k<;>simp only[NV]at h<;>first|cases h|skip
    cases hr:NV r with
    | none=>rw[hr]at h;cases h
    | some b =>
     rw[hr]at h;simp only[Option.map_some,Option.some.injEq]at h;subst h;have h0:=OC (.ca (.one (hc.2 0 _ v rfl rfl)));have ih:=oR (vs:=vs) hr ⟨by have:=hc.1;simpa using this,λ j c v h1 h2=>hc.2 (j+1) c v h1 h2⟩;rw[h0,ih];rfl
   | _=>simp only[NV]at h;cases h
theorem Aee (hm:CY B S w0 m) (hs:D9 B S m ρ a.eval) {ne:Bool} {n:Nat} {x' y':BH} (h:CH P num o.op (.oa ne n x' y')=true) {cs ds:List AV} (hx:ρ x' = .agg cs) (hy:ρ y' = .agg ds) {p q:List Int} (hp:NV cs=some p) (hq:NV ds=some q) (hn:p.length=n/\q.length=n) :
  EG B S w0 P o a m (.val (.bool (if ne then !(decide (p=q)) else decide (p=q)))):=by
 obtain ⟨t,x,y,u,l9,im,h1,h2⟩:=AgX h;obtain ⟨vx,ex,cx⟩:=lS (hx ▸ hs x x' h1);obtain ⟨vy,ey,cy⟩:=lS (hy ▸ hs y y' h2);obtain rfl:=oR hp cx;obtain rfl:=oR hq cy;obtain ⟨rfl,Sj⟩:=hn;simp only[nY,Bool.and_eq_true,Bool.not_eq_true']at im;obtain ⟨⟨hf,m9⟩,hg⟩:=im;obtain ⟨fs,hu,me⟩ : ∃ fs,P.underlying t=some (.struct fs)/\fieldsI P 0 fs.toList p.length=true:=by
  split at hf
  ·exact ⟨_,by assumption,hf⟩
  ·cases hf
 have Rw:P.fieldsOf t=fs:=by simp [Program.fieldsOf,hu]
 have hr:=run_equalIn_struct m.w 9999 t (p.map (Value.int .i64)).toArray (q.map (Value.int .i64)).toArray (by rw[Rw];exact hu) m9;rw[Rw,Nl 9998 p q m.w me Sj,List.drop_zero,List.drop_zero]at hr;refine GU hm (u := .bool (if ne then !(decide (p=q)) else decide (p=q))) ?_ (dM _);cases ne
 ·simp [execOp,l9,ex,ey,run_eqGuard_agg m.w _ t x y _ _ hg,run_eql_struct,hr]
 ·simp [execOp,l9,ex,ey,run_eqGuard_agg m.w _ t x y _ _ hg,run_neq_struct,hr]
theorem AeO (hm:CY B S w0 m) (hs:D9 B S m ρ a.eval) {f:UnOp} {x':BH} (h:CH P num o.op (.un f x')=true) {v:AV} (hv:XX f (ρ x')=some v):EG B S w0 P o a m (.val v):=by
 obtain ⟨t,x,l9,h1⟩:=Ahk h;have hx:=hs x x' h1;unfold XX at hv;split at hv
 ·rename_i k n hk
  have ex:=OC (hk ▸ hx);split at hv
  ·obtain rfl:_=v:=by simpa using hv
   exact GU hm (by simp [execOp,l9,ex,Op.unary,Op.intArith]) (XH _ _)
  ·obtain rfl:_=v:=by simpa using hv
   exact GU hm (by simp only[execOp,l9,ex,Op.unary];rfl) (XH _ _)
  ·cases hv
 ·rename_i b hk
  have ex:=YD (hk ▸ hx);split at hv
  ·obtain rfl:_=v:=by simpa using hv
   exact GU hm (by simp [execOp,l9,ex,Op.unary]) (dM _)
  ·cases hv
 ·cases hv
theorem Aet (hm:CY B S w0 m) (hs:D9 B S m ρ a.eval) {k:IntKind} {x':BH} (h:CH P num o.op (.conv k x')=true) {k':IntKind} {n:Int} (hx:ρ x' = .int k' n):EG B S w0 P o a m (.val (.int k (k.wrap n))):=by
 obtain ⟨s,d,x,ds,l9,Bc,hd,h1⟩:=Ag8 h;have ex:=OC (hx ▸ hs x x' h1);refine GU hm (u := .int k (k.wrap n)) ?_ (XH _ _);simp [execOp,l9,ex,convert,run_underlying Bc,run_underlying hd,Conv.intToInt]
theorem Aiw (t:TypeId) (a:Option Addr) (n c:Nat) {e:TypeId} (hu:P.underlying t=some (.slice e)) (w:World):(Op.equal t (.slice a n c) (.slice none 0 0)).run P w = .ok a.isNone w:=by
 have h : ∀ d:Nat,(Op.equalIn (d+1) t (.slice a n c) (.slice none 0 0)).run P w = .ok a.isNone w:=λ d=>by
  unfold Op.equalIn;rw[Sem.run_bind,run_underlying hu];cases a<;>rfl
 exact h 9999
theorem Aiu (f:BinOp) (t:TypeId) (x y:Operand) (a b:Option Addr) (n c n' c':Nat) (w:World):(eqGuard f t x y (.slice a n c) (.slice b n' c')).run P w = .ok () w:=by
 unfold eqGuard;cases f<;>simp
theorem gO (hm:CY B S w0 m) (hs:D9 B S m ρ a.eval) {ne:Bool} {x':BH} (h:CH P num o.op (.rp ne x')=true) {b:Bool} (hx : ∀ v,CV B S m (ρ x') v -> ∃ ad n c,v = .slice ad n c/\ad.isNone=b) :
  EG B S w0 P o a m (.val (.bool (xor b ne))):=by
 obtain ⟨t,x,u,e,l9,hu,h1⟩:=Ahb h;obtain ⟨ad,n,c,ex,hb⟩:=hx _ (hs x x' h1);refine GU hm (u := .bool (xor b ne)) ?_ (dM _);have e0:a.eval (.const (.slice none 0 0)) = .slice none 0 0:=rfl;cases ne<;>cases b<;>simp [execOp,l9,ex,e0,Aiu,binOp,Aiw t ad n c hu,hb]
theorem ZS {v:Value} (h:CV B S m .nil v):v = .slice none 0 0:=by
 cases h with
 | ca h=>cases h with
  | one h=>cases h with
   | rd h=>cases h
   | nil=>rfl
theorem uS {b:Bool} {v:Value} (h:CV B S m (.da (.bool b)) v) : ∃ ad c,v = .slice ad 0 c/\ad.isNone=b:=by
 cases h with
 | ca h=>cases h with
  | one h=>cases h with
   | rd h=>cases h with
    | emp b a cap h=>exact ⟨a,cap,rfl,h⟩
theorem AdT {l:Bool} {e:List AV} {es:List (List AV)} {v:Value} (h:CV B S m (.sl l (e::es)) v) : ∃ ad n c,v = .slice ad n c/\ad.isNone=false:=by
 cases h with
 | ca h=>cases h with
  | one h=>cases h with
   | rd h=>cases h with
    | sl=>exact ⟨_,_,_,rfl,rfl⟩
theorem AdS {s t z off n:Nat} {v:Value} (h:CV B S m (.row s t z off (n+1)) v) : ∃ ad n c,v = .slice ad n c/\ad.isNone=false:=by
 cases h with
 | ca h=>cases h with
  | one h=>cases h with
   | rd h=>cases h
   | row _ _ _ _ _ a cap _ _ _ ha=>exact ⟨_,_,_,rfl,by have:=ha (by omega);cases a<;>simp_all⟩
theorem AeK (hm:CY B S w0 m) (hs:D9 B S m ρ a.eval) {tb:List Nat} {x':BH} (h:CH P num o.op (.gv tb x')=true) {k:IntKind} {n:Int} {v:Nat} (hx:ρ x' = .int k n) (h0:0<=n) (hv:tb[n.toNat]? = some v) :
  EG B S w0 P o a m (.val (.int .u8 v)):=by
 obtain ⟨t,s,i,l9,hu,Fy,h1⟩:=Ahh h;have ex:=OC (hx ▸ hs i x' h1);have hb : ∃ b:UInt8,s[n.toNat]? = some b/\b.toNat=v:=by
  rw[<-Fy,List.getElem?_map]at hv;cases hg:s.data.toList[n.toNat]? with
  | none=>simp [hg]at hv
  | some b =>
   simp only[hg,Option.map_some,Option.some.injEq]at hv;refine ⟨b,?_,hv⟩;have l8:n.toNat<s.size:=by
    have:=(zS hg).1
    simpa using this
   rw[getElem?_pos s n.toNat l8];congr 1;have:=(zS hg).2
   rw[<-this];rfl
 obtain ⟨b,Ay,s8⟩:=hb;refine GU hm (u := .int .u8 v) ?_ (XH _ _);have e0:a.eval (.const (.string s)) = .string s:=rfl;simp [execOp,l9,ex,e0,Instr.index,asIntOf,run_underlying hu,h0,Ay,s8]
theorem AhV {x c:AV} {v:Value} (h:CV B S m x v) (hc:KO x=some c):CC B S m c v:=by
 cases h with
 | any=>simp [KO]at hc
 | g8=>simp [KO]at hc
 | ca h=>cases h with
  | agg=>simp [KO]at hc
  | fn=>simp [KO]at hc
  | tp=>simp [KO]at hc
  | one h =>
   have:c=x:=by
    cases h with
    | rd h=>cases h<;>simp [KO]at hc<;>exact hc.symm
    | _=>simp [KO]at hc;exact hc.symm
   subst this;exact h
theorem vT (hs:D9 B S m ρ a.eval) : ∀ {xs:List Operand} {n9:List BH} {cs:List AV},GK xs n9=true->n9.mapM (λ x=>KO (ρ x))=some cs->CL B S m cs (xs.map a.eval)
 | [],[],cs,_,h=>by
  simp at h;subst h;exact ⟨rfl,λ j c v h=>by simp at h⟩
 | x::r,y::l,cs,h,hc=>by
  simp only[GK,Bool.and_eq_true]at h;simp only[List.mapM_cons,Option.bind_eq_bind,Option.pure_def]at hc;cases h1:KO (ρ y) with
  | none=>simp [h1]at hc
  | some c =>
   cases h2:l.mapM (λ x=>KO (ρ x)) with
   | none=>simp [h1,h2]at hc
   | some er =>
    simp [h1,h2]at hc;subst hc;have ih:=vT hs h.2 h2;refine ⟨by simpa using ih.1,λ j c' v hj hv => ?_⟩;cases j with
    | zero =>
     simp at hj hv;subst hj hv;exact AhV (hs x y h.1) h1
    | succ j=>exact ih.2 j c' v (by simpa using hj) (by simpa using hv)
 | [],_::_,_,h,_=>by simp [GK]at h
 | _::_,[],_,h,_=>by simp [GK]at h
theorem AeG (hm:CY B S w0 m) (hs:D9 B S m ρ a.eval) {p:Bool} {f:Nat} {n9:List BH} (h:CH P num o.op (.pe p f n9)=true) {cs:List AV} (hc:n9.mapM (λ x=>KO (ρ x))=some cs) :
  EG B S w0 P o a m (.val (.fn (p&&cs.isEmpty) f (num f) cs)):=by
 obtain ⟨first,xs,l9,rfl,he⟩:=Ahe h;have n8:=vT hs he hc;have gk:(xs.map a.eval)=(xs.toList.map a.eval).toArray:=by cases xs;simp
 refine GU hm (u := .func (.func (num f)) #[] (xs.toList.map a.eval).toArray) ?_ (.ca (.fn (p&&cs.isEmpty) f (num f) cs _ (λ h=>by simpa using (Bool.and_eq_true _ _ ▸ h:p=true/\cs.isEmpty=true).2) n8));simp [execOp,l9,Instr.makeFunc,gk]
end
end Go.e6

namespace Go.e6
open Go.RowKit
section
variable {B:Nat} {S:Nat->Prop} {w0:World} {m:M}
variable {P:Program} {num:Nat->Nat} {o:Oper} {a:Act} {ρ:BH->AV}
theorem ZR {cs:List AV} {vs:List Value} (h:CL B S m cs vs) {j:Nat} {c:AV} (hj:cs[j]? = some c) : ∃ u,vs[j]? = some u/\CC B S m c u:=by
 have l8:j<cs.length:=(zS hj).1;have uv:j<vs.length:=by rw[<-h.1];exact l8
 exact ⟨vs[j],zE uv,h.2 j c _ hj (zE uv)⟩
theorem AhN {s:Nat} {b:GE} {w':World} {g:Nat}:CV B S ⟨j8 m s (some g),m.own.put s ((m.own s).new b),w'⟩ (.ptr s (m.own.j5 s) 0 0) (.pointer (some ⟨g,0,none⟩)):=by
 refine .ca (.one (.ptr s (m.own.j5 s) 0 0 ⟨g,0,none⟩ ?_ λ b' l7=>⟨g,?_,by simp⟩))
 ·show _<BC.j5 _ s
  rw[Q0];simp
 ·simp [j8]
theorem vE (hm:CY B S w0 m) (s:Nat) (cs:List AV) (vs:Array Value) (e:TypeId) (hc:CL B S m cs vs.toList) (h:(execOp a.eval o).run P m.w = .ok (.value (.pointer (some ⟨m.w.heap.size,0,none⟩))) (m.w.alloc (.cells vs e))) :
  EG B S w0 P o a m (.new s ⟨cs.length,[cs]⟩ (λ t => .ptr s t 0 0)):=by
 intro K Q hK;obtain ⟨h1,h2⟩:=kX hm s ⟨cs.length,[cs]⟩ vs e (by simp) (λ i er hi j c hj=>by
  cases i with
  | zero =>
   obtain rfl:cs=er:=by simpa using hi
   obtain ⟨u,hu,ag⟩:=ZR hc hj;exact ⟨u,by simpa using hu,ag⟩
  | succ i=>simp at hi)
 exact WS h (hK _ ⟨j8 m s (some m.w.heap.size),m.own.put s ((m.own s).new ⟨cs.length,[cs]⟩),m.w.alloc (.cells vs e)⟩ rfl h1 h2 AhN)
theorem Aek (hm:CY B S w0 m) (hs:D9 B S m ρ a.eval) {s:Nat} {x':BH} (h:CH P num o.op (.box s x')=true) {cs:List AV} (hc:cellsOf (ρ x')=some cs) :
  EG B S w0 P o a m (.new s ⟨cs.length,[cs]⟩ (λ t => .ptr s t 0 0)):=by
 obtain ⟨t,x,l9,h1⟩:=Ag1 h;exact vE hm s cs (a.eval x).cells t (gI (hs x x' h1) hc) (by simp [execOp,l9,Instr.box,newVar,newRow])
theorem Aef (hm:CY B S w0 m) {s:Nat} {z:List AV} (h:CH P num o.op (.alloc s z)=true):EG B S w0 P o a m (.new s ⟨z.length,[z]⟩ (λ t => .ptr s t 0 0)):=by
 obtain ⟨t,l9,h1⟩:=AgY h;obtain ⟨i,v,hi,hz,he⟩:=rP h1;exact vE hm s z v.cells t (ZV he) (by simp [execOp,l9,Instr.alloc,zeroValue,typeInfo,hi,hz,newVar,newRow])
theorem oF (off:Nat) : ∀ (vs:List Value) (k:Nat) (cells:Array Value),off+k+vs.length<=cells.size ->
  ((vs.zipIdx k).foldl (λ cs (x:Value × Nat)=>cs.setIfInBounds (off+x.2) x.1) cells).toList=cells.toList.take (off+k)++vs++cells.toList.drop (off+k+vs.length)
 | [],k,cells,_=>by simp
 | v::r,k,cells,h=>by
  simp only[List.length_cons]at h;rw[List.zipIdx_cons,List.foldl_cons,oF off r (k+1) _ (by simp;omega)];simp only[Array.toList_setIfInBounds,List.length_cons];apply List.ext_getElem?;intro q;have e1:(cells.toList.set (off+k) v).drop (off+(k+1)+r.length)=cells.toList.drop (off+k+(r.length+1)):=by
   rw[show off+(k+1)+r.length=off+k+(r.length+1) by omega];exact List.drop_set_of_lt (by omega)
  have e2:(cells.toList.set (off+k) v).take (off+(k+1))=cells.toList.take (off+k)++[v]:=by
   rw[show off+(k+1)=off+k+1 by omega,List.take_succ_eq_append_getElem (by simp;omega)];simp [List.take_set_of_le]
  rw[e1,e2];simp
theorem nV (place:Nat->Option (Nat × Nat)) (hs:D9 B S m ρ a.eval) : ∀ (ps:List (Nat × Operand)) (ep:List (Nat × Nat × BH)) (cs er:List AV) (vs:Array Value),YY place ps ep=true->CL B S m cs vs.toList ->
  fill cs (ep.map λ p=>(p.1,p.2.1,ρ p.2.2))=some er -> ∃ cq,Instr.fill place vs (ps.map λ p=>(p.1,a.eval p.2))=some cq/\CL B S m er cq.toList
 | [],[],cs,er,vs,_,hc,hf=>by
  simp [fill]at hf;subst hf;exact ⟨vs,rfl,hc⟩
 | (i,x)::r,(off,n,y)::l,cs,er,vs,hp,hc,hf=>by
  simp only[YY,Bool.and_eq_true,beq_iff_eq]at hp;obtain ⟨⟨Ke,Cx⟩,hp3⟩:=hp;simp only[List.map_cons,fill]at hf;cases hcell:cellsOf (ρ y) with
  | none=>simp [hcell]at hf
  | some us =>
   simp only[hcell]at hf;split at hf
   ·rename_i hn
    obtain ⟨hn1,Jy⟩:=hn;have fq:=gI (hs x y Cx) hcell;have w7:(a.eval x).cells.size=n:=by rw[<-hn1,fq.1];simp
    have Bm:off+(a.eval x).cells.size<=vs.size:=by rw[w7];have:=hc.1;simp at this;omega
    have uh:=oF off (a.eval x).cells.toList 0 vs (by simpa using Bm);have js:Instr.fill place vs (((i,x)::r).map λ p=>(p.1,a.eval p.2))=Instr.fill place ((a.eval x).cells.zipIdx.foldl (λ cs (c,j)=>cs.setIfInBounds (off+j) c) vs) (r.map λ p=>(p.1,a.eval p.2)):=by
     simp only[List.map_cons,Instr.fill,Ke];rw[if_neg (by simp;omega)]
    rw[js];refine nV place hs r l (splice cs off us) er _ hp3 ?_ hf;have hz:((a.eval x).cells.zipIdx.foldl (λ cs (c,j)=>cs.setIfInBounds (off+j) c) vs).toList=vs.toList.take off++(a.eval x).cells.toList++vs.toList.drop (off+(a.eval x).cells.toList.length):=by
     rw[<-Array.foldl_toList];simpa using uh
    rw[hz];unfold splice;refine ⟨?_,λ j c v hj hv => ?_⟩
    ·have:=hc.1;have:=fq.1;simp at *;omega
    ·have jr:=hc.1
     have jd:=fq.1;simp only[Array.length_toList]at jr jd;rw[List.getElem?_append]at hj hv;simp only[List.length_append,List.length_take,Array.length_toList]at hj hv;rw[List.getElem?_append]at hj hv;simp only[List.length_take,Array.length_toList]at hj hv;have lg:min off cs.length=off:=by omega
     have je:min off vs.size=off:=by omega
     rw[lg]at hj;rw[je]at hv;rw[<-jd]at hv;split at hj
     ·rename_i h1
      rw[if_pos h1]at hv;split at hj
      ·rename_i h2
       rw[if_pos h2]at hv;rw[List.getElem?_take]at hj hv;rw[if_pos h2]at hj hv;exact hc.2 j c v hj hv
      ·rename_i h2
       rw[if_neg h2]at hv;exact fq.2 _ c v hj hv
     ·rename_i h1
      rw[if_neg h1]at hv;rw[List.getElem?_drop]at hj hv;exact hc.2 _ c v hj hv
   ·cases hf
 | [],_::_,_,_,_,hp,_,_=>by simp [YY]at hp
 | _::_,[],_,_,_,hp,_,_=>by simp [YY]at hp
theorem Aem (hm:CY B S w0 m) (hs:D9 B S m ρ a.eval) {z:List AV} {ep:List (Nat × Nat × BH)} (h:CH P num o.op (.build z ep)=true) {cs:List AV} (hf:fill z (ep.map λ p=>(p.1,p.2.1,ρ p.2.2))=some cs) :
  EG B S w0 P o a m (.val (.agg cs)):=by
 obtain ⟨t,ps,l9,h1,h2⟩:=Ag3 h;obtain ⟨i,v,hi,hz,he⟩:=rP h1;have key : ∃ cq,P.built t (ps.map λ p=>(p.1,a.eval p.2)).toList=some cq/\CL B S m cs cq.toList:=by
  unfold lJ at h2;unfold Program.built;split at h2
  ·rename_i fs hu
   split at h2
   ·rename_i places hp
    obtain ⟨cq,h3,h4⟩:=nV _ hs ps.toList ep z cs v.cells h2 (ZV he) hf;refine ⟨cq,?_,h4⟩;simp only[hi,hu,hz,hp,Array.toList_map];exact h3
   ·cases h2
  ·rename_i n e hu
   split at h2
   ·rename_i ie Jr
    obtain ⟨cq,h3,h4⟩:=nV _ hs ps.toList ep z cs v.cells h2 (ZV he) hf;refine ⟨cq,?_,h4⟩;simp only[hi,hu,hz,Jr,Array.toList_map];exact h3
   ·cases h2
  ·cases h2
 obtain ⟨cq,h3,h4⟩:=key;refine GU hm (u := .agg cq) ?_ (.ca (by simpa using CA.agg cs cq.toList h4));simp only[execOp,l9,Sem.run_bind];rw[run_build m.w t _ cq h3];rfl
theorem xS (size:Nat) (hs:D9 B S m ρ a.eval) : ∀ (ps:List (Nat × Operand)) (ep:List BH) (k:Nat) (es:List (List AV)) (vs:Array Value),YG k ps ep=true->ep.mapM (λ x=>cellsOf (ρ x))=some es->(∀ e∈es,e.length=size)->vs.size=(k+ep.length)*size ->
  ∃ cq,Instr.fill (λ i=>some (i*size,size)) vs (ps.map λ p=>(p.1,a.eval p.2))=some cq/\cq.size=vs.size/\(∀ q,q<k*size->cq[q]? = vs[q]?) /\ ∀ i cs,es[i]? = some cs -> ∀ j c,cs[j]? = some c -> ∃ u,cq[(k+i)*size+j]? = some u/\CC B S m c u
 | [],[],k,es,vs,_,jo,_,_=>by
  simp at jo;subst jo;exact ⟨vs,rfl,rfl,λ_ _=>rfl,λ i cs hi=>by simp at hi⟩
 | (i,x)::r,y::l,k,es,vs,he,jo,hz,hv=>by
  simp only[YG,Bool.and_eq_true,beq_iff_eq]at he;obtain ⟨⟨rfl,h1⟩,h2⟩:=he;simp only[List.mapM_cons,Option.bind_eq_bind,Option.pure_def]at jo;cases hcell:cellsOf (ρ y) with
  | none=>simp [hcell]at jo
  | some us =>
   cases dv:l.mapM (λ x=>cellsOf (ρ x)) with
   | none=>simp [hcell,dv]at jo
   | some es' =>
    simp [hcell,dv]at jo;subst jo;have fq:=gI (hs x y h1) hcell;have Sz:us.length=size:=hz us (by simp);have w7:(a.eval x).cells.size=size:=by rw[<-Sz,fq.1];simp
    simp only[List.length_cons]at hv;have hle:i*size+size<=vs.size:=by rw[hv,show i+(l.length+1)=i+1+l.length by omega,Nat.add_mul,Nat.add_mul];omega
    have uh:=oF (i*size) (a.eval x).cells.toList 0 vs (by simp [w7];omega);generalize Gb:(a.eval x).cells.zipIdx.foldl (λ cs (c,j)=>cs.setIfInBounds (i*size+j) c) vs=Dl;have kf:Dl.toList=vs.toList.take (i*size)++(a.eval x).cells.toList++vs.toList.drop (i*size+size):=by
     rw[<-Gb,<-Array.foldl_toList];simpa [w7] using uh
    have Dd:Dl.size=vs.size:=by
     have:=congrArg List.length kf
     simp [w7]at this;omega
    obtain ⟨cq,h3,h4,h5,h6⟩:=xS size hs r l (i+1) es' Dl h2 dv (λ e he=>hz e (by simp [he])) (by rw[Dd,hv];congr 1;omega);refine ⟨cq,?_,h4.trans Dd,λ q hq => ?_,λ i' cs o9 j c hj => ?_⟩
    ·simp only[List.map_cons,Instr.fill]
     rw[if_neg (by simp [w7];omega),Gb];exact h3
    ·rw[h5 q (by rw[Nat.add_mul];omega)]
     have:Dl.toList[q]? = vs.toList[q]? := by
      rw[kf,List.append_assoc,List.getElem?_append_left (by simp;omega),List.getElem?_take,if_pos hq]
     simpa using this
    ·cases i' with
     | zero =>
      obtain rfl:us=cs:=by simpa using o9
      obtain ⟨u,hu,ag⟩:=ZR fq hj;have gj:j<size:=by rw[<-Sz];exact (zS hj).1
      refine ⟨u,?_,ag⟩;rw[Nat.add_zero,h5 _ (by rw[Nat.add_mul];omega)];have:Dl.toList[i*size+j]? = some u:=by
       rw[kf,List.append_assoc,List.getElem?_append_right (by simp;omega)];simp only[List.length_take,Array.length_toList,show min (i*size) vs.size=i*size by omega,show i*size+j-i*size=j by omega];rw[List.getElem?_append_left (by simp [w7];omega)];exact hu
      simpa using this
     | succ i' =>
      obtain ⟨u,hu,ag⟩:=h6 i' cs (by simpa using o9) j c hj;exact ⟨u,by rw[show i+(i'+1)=i+1+i' by omega];exact hu,ag⟩
 | [],_::_,_,_,_,he,_,_,_=>by simp [YG]at he
 | _::_,[],_,_,_,he,_,_,_=>by simp [YG]at he
theorem Od {s z n cap:Nat} {es:List (List AV)} {w':World} {g:Nat} {arr:Array Value} {e:TypeId} (hz:0<z) (hn:n<=cap) (hg:w'.heap[g]? = some (.cells arr e (0,0))) (hc:cap*z<=arr.size) :
  CV B S ⟨j8 m s (some g),m.own.put s ((m.own s).new ⟨z,es⟩),w'⟩ (.row s (m.own.j5 s) z 0 n) (.slice (some ⟨g,0,none⟩) n cap):=by
 refine .ca (.one (.row s (m.own.j5 s) z 0 n _ cap ?_ hz hn (λ_=>rfl) λ b' l7=>⟨?_,.inr ⟨g,arr,e,?_,by simp,hg,by simpa using hc⟩⟩))
 ·show _<BC.j5 _ s
  rw[Q0];simp
 ·change BC.get _ s _=some b' at l7
  rw[JU,if_pos ⟨rfl,rfl⟩]at l7;obtain rfl:(⟨z,es⟩:GE)=b':=by simpa using l7
  rfl
 ·simp [j8]
theorem vI (hm:CY B S w0 m) (s z n cap:Nat) (es:List (List AV)) (vs:Array Value) (e:TypeId) (fv:0<z) (hn:n<=cap) (w7:cap*z<=vs.size) (hz : ∀ x∈es,x.length=z)
  (hc : ∀ i cs,es[i]? = some cs -> ∀ j c,cs[j]? = some c -> ∃ u,vs[i*z+j]? = some u/\CC B S m c u)
  (h:(execOp a.eval o).run P m.w = .ok (.value (.slice (some ⟨m.w.heap.size,0,none⟩) n cap)) (m.w.alloc (.cells vs e))) :
  EG B S w0 P o a m (.new s ⟨z,es⟩ (λ t => .row s t z 0 n)):=by
 intro K Q hK;obtain ⟨h1,h2⟩:=kX hm s ⟨z,es⟩ vs e hz hc;exact WS h (hK _ ⟨j8 m s (some m.w.heap.size),m.own.put s ((m.own s).new ⟨z,es⟩),m.w.alloc (.cells vs e)⟩ rfl h1 h2 (Od fv hn (heap_alloc_new _ _) w7))
theorem Ael (hm:CY B S w0 m) (hs:D9 B S m ρ a.eval) {s b9:Nat} {ep:List BH} (h:CH P num o.op (.e5 s b9 ep)=true) {es:List (List AV)} (jo:ep.mapM (λ x=>cellsOf (ρ x))=some es) (hz : ∀ e∈es,e.length=b9) :
  EG B S w0 P o a m (.new s ⟨b9,es⟩ (λ t => .row s t b9 0 es.length)):=by
 obtain ⟨t,n,ps,e,i,l9,hu,hi,w7,h0,hn,Kv,et,hzero⟩:=Ag2 h;have hlen:es.length=n:=by
  rw[hn];clear h et hzero hn;induction ep generalizing es with
  | nil=>simp at jo;subst jo;rfl
  | cons y l ih =>
   simp only[List.mapM_cons,Option.bind_eq_bind,Option.pure_def]at jo;cases hcell:cellsOf (ρ y) with
   | none=>simp [hcell]at jo
   | some us =>
    cases dv:l.mapM (λ x=>cellsOf (ρ x)) with
    | none=>simp [hcell,dv]at jo
    | some es' =>
     simp [hcell,dv]at jo;subst jo;simp [ih dv (λ e he=>hz e (by simp [he]))]
 obtain ⟨zc,Ge⟩ : ∃ zc:Array Value,(n*b9=0/\zc = #[])\/(¬ n*b9=0 /\ ∃ z,i.zero=some z/\zc=z.cells):=by
  by_cases m7:n*b9=0
  ·exact ⟨#[],.inl ⟨m7,rfl⟩⟩
  ·rcases hzero with wv|⟨z,kf,rn⟩
   ·simp [wv]at m7
   ·exact ⟨z.cells,.inr ⟨m7,z,kf,rfl⟩⟩
 have Gg:((Array.range (n*b9)).map (zc[· % zc.size]!)).size=n*b9:=by simp
 obtain ⟨cq,h3,h4,_,h6⟩:=xS b9 hs ps.toList ep 0 es _ et jo hz (by rw[Gg,hn];simp);have q7:(execOp a.eval o).run P m.w = .ok (.value (.slice (some ⟨m.w.heap.size,0,none⟩) n n)) (m.w.alloc (.cells cq e)):=by
  simp only[execOp,l9,Instr.buildSlice,Sem.run_bind,run_underlying hu,Result.andThen_ok,sizeOf,typeInfo,run_program,hi,Sem.run_pure,w7];simp only[show ¬ (n*b9>2^24) from by omega,if_false,Sem.run_bind,Sem.run_pure,Result.andThen_ok];rcases Ge with ⟨wv,rfl⟩|⟨wv,z,kf,rfl⟩
  ·simp only[wv,if_true,Sem.run_bind,Sem.run_pure,Result.andThen_ok,Array.toList_map]
   rw[wv]at h3;rw[h3];rfl
  ·simp only[wv,if_false,Sem.run_bind,Sem.run_pure,Result.andThen_ok,Array.toList_map,zeroValue,typeInfo,run_program,hi,kf]
   rw[h3];rfl
 rw[hlen];exact vI hm s b9 n n es cq e (Nat.pos_of_ne_zero h0) (Nat.le_refl _) (by rw[h4,Gg];exact Nat.le_refl _) hz (λ i cs o9 j c hj=>by simpa using h6 i cs o9 j c hj) q7
end
end Go.e6

namespace Go.e6
open Go.RowKit
section
variable {B:Nat} {S:Nat->Prop} {w0:World} {m:M}
variable {P:Program} {num:Nat->Nat} {o:Oper} {a:Act} {ρ:BH->AV}
theorem gG {x:AV} {v:Value} (h:CV B S m x v) (h1:x ≠ .any) (h2 : ∀ cs,x ≠ .agg cs) (h3 : ∀ cs,x ≠ .g8 cs) (h4 : ∀ p f g cs,x ≠ .fn p f g cs:=by intros;simp):CC B S m x v:=by
 cases h with
 | any=>exact absurd rfl h1
 | g8 as=>exact absurd rfl (h3 as)
 | ca h=>cases h with
  | one h=>exact h
  | agg cs=>exact absurd rfl (h2 cs)
  | fn p f g cs=>exact absurd rfl (h4 p f g cs)
  | tp f g cs=>exact absurd rfl (h4 true f g cs)
theorem cK {s t i j:Nat} {v:Value} (h:CV B S m (.ptr s t i j) v) : ∃ ad,v = .pointer (some ad)/\t<m.own.j5 s /\ ∀ b,m.own.get s t=some b -> ∃ g,m.ν s t=some g/\ad=⟨g,i*b.b9+j,none⟩:=by
 cases gG h (by simp) (by simp) (by simp) with
 | rd h=>cases h
 | ptr s t i j ad ht h'=>exact ⟨ad,rfl,ht,h'⟩
theorem mC {cs:List AV} {v:Value} (h:CV B S m (.u7 cs) v) : ∃ (b o:Nat) (u:Nat->Value) (l:Bool),v = .pointer (some ⟨b,o,none⟩)/\(cs≠[]->safe B S m l b)/\(∀ j c,cs[j]? = some c->m.w.cell? ⟨b,o+j,none⟩=some (u j))/\(∀ j c,cs[j]? = some c->Rd m.w (safe B S m) c (u j)):=by
 cases gG h (by simp) (by simp) (by simp) with
 | rd h=>cases h
 | u7 _ b o u l h1 h2 h3=>exact ⟨b,o,u,l,rfl,h1,h2,h3⟩
theorem ZT {s t z off len:Nat} {v:Value} (h:CV B S m (.row s t z off len) v) : ∃ (ad:Option Addr) (cap:Nat),v = .slice ad len cap/\t<m.own.j5 s/\0<z/\len<=cap/\(0<len->ad.isSome=true) /\
  ∀ b,m.own.get s t=some b->b.b9=z/\((len=0/\cap=0) \/ ∃ g arr e,m.ν s t=some g/\ad=some ⟨g,off*z,none⟩/\m.w.heap[g]? = some (.cells arr e (0,0))/\(off+cap)*z<=arr.size):=by
 cases gG h (by simp) (by simp) (by simp) with
 | rd h=>cases h
 | row s t z off len ad cap ht fv kp ha h'=>exact ⟨ad,cap,rfl,ht,fv,kp,ha,h'⟩
theorem gJ {l:Bool} {es:List (List AV)} {v:Value} (h:CV B S m (.sl l es) v):Rd m.w (safe B S m) (.sl l es) v:=by
 cases gG h (by simp) (by simp) (by simp) with
 | rd h=>exact h
theorem Aew (hm:CY B S w0 m) (hs:D9 B S m ρ a.eval) {x':BH} {off:Nat} (h:CH P num o.op (.a5 x' off)=true) {s t i j:Nat} (hx:ρ x' = .ptr s t i j):EG B S w0 P o a m (.val (.ptr s t i (j+off))):=by
 obtain ⟨ty,x,f,fs,fd,inf,l9,h1,hu,hf,ho,hi,w7⟩:=yU h;obtain ⟨ad,hv,ht,hb⟩:=cK (hx ▸ hs x x' h1);refine GU hm (u := .pointer (some (ad.add off))) ?_ (.ca (.one (.ptr s t i (j+off) _ ht λ b l7 => ?_)))
 ·simp [execOp,l9,hv,Instr.fieldAt,run_underlying hu,hf,Instr.sureAddr,fieldPlace,sizeOf,typeInfo,hi,w7,ho]
 ·obtain ⟨g,hg,rfl⟩:=hb b l7
  exact ⟨g,hg,by rw[NS];simp;omega⟩
theorem Aev (hm:CY B S w0 m) (hs:D9 B S m ρ a.eval) {x':BH} {off:Nat} (h:CH P num o.op (.a5 x' off)=true) {cs:List AV} (hx:ρ x' = .u7 cs):EG B S w0 P o a m (.val (.u7 (cs.drop off))):=by
 obtain ⟨ty,x,f,fs,fd,inf,l9,h1,hu,hf,ho,hi,w7⟩:=yU h;obtain ⟨b,ob,u,l,hv,hR,hc,hr⟩:=mC (hx ▸ hs x x' h1);refine GU hm (u := .pointer (some ⟨b,ob+off,none⟩)) ?_ (.ca (.one (.u7 _ b (ob+off) (λ j=>u (off+j)) l (λ m7=>hR (λ e=>m7 (by simp [e]))) (λ j c hj => ?_) (λ j c hj => ?_))))
 ·simp [execOp,l9,hv,Instr.fieldAt,run_underlying hu,hf,Instr.sureAddr,fieldPlace,sizeOf,typeInfo,hi,w7,ho,NS]
 ·rw[List.getElem?_drop]at hj
  rw[Nat.add_assoc];exact hc _ c hj
 ·rw[List.getElem?_drop]at hj
  exact hr _ c hj
theorem iN {agg:Bool} {cs:List AV} {v:AV} (h:QP agg cs=some v) {vs:List Value} (hc:CL B S m cs vs):CV B S m v (if agg then .agg vs.toArray else vs.getD 0 undef)/\(agg=false->vs.length=1):=by
 unfold QP at h;cases agg with
 | true =>
  obtain rfl:AV.agg cs=v:=by simpa using h
  exact ⟨.ca (.agg cs vs hc),by simp⟩
 | false =>
  simp only[Bool.false_eq_true,if_false]at h;split at h
  ·rename_i c
   obtain rfl:c=v:=by simpa using h
   obtain ⟨u,hu,ag⟩:=ZR hc (j:=0) (c:=c) rfl;refine ⟨?_,λ_=>by rw[<-hc.1];rfl⟩;simp only[Bool.false_eq_true,if_false,List.getD,hu,Option.getD_some];exact .ca (.one ag)
  ·cases h
theorem Aiz (t:TypeId) (agg:Bool) (inf:TypeInfo) (jk : ∀ w,(isAgg t).run P w = .ok agg w) (hi:P.info? t=some inf) (vs:List Value) (off n:Nat) (hn:inf.size=n) (hle:off+n<=vs.length) (h1:agg=false->n=1) (w:World) :
  (Go.part t vs.toArray off).run P w = .ok (if agg then .agg ((vs.drop off).take n).toArray else ((vs.drop off).take n).getD 0 undef) w:=by
 unfold Go.part;rw[Sem.run_bind,jk w];cases agg with
 | true=>simp [sizeOf,typeInfo,hi,hn,List.extract_eq_take_drop]
 | false =>
  have l8:off<vs.length:=by have:=h1 rfl;omega
  simp [l8,h1 rfl]
theorem Aex (hm:CY B S w0 m) (hs:D9 B S m ρ a.eval) {x':BH} {off n:Nat} {agg:Bool} (h:CH P num o.op (.oi x' off n agg)=true) {cs ds:List AV} {v:AV} (hx:ρ x' = .agg cs) (hp:part cs off n=some ds) (hv:QP agg ds=some v) :
  EG B S w0 P o a m (.val v):=by
 obtain ⟨ty,x,f,fs,fd,inf,l9,h1,hu,hf,ho,hi,w7,jk,h0⟩:=Aha h;obtain ⟨vs,cu,n8⟩:=lS (hx ▸ hs x x' h1);unfold e6.part at hp;split at hp
 ·rename_i hle
  obtain rfl:(cs.drop off).take n=ds:=by simpa using hp
  obtain ⟨w5,ln⟩:=iN hv (Adz n8 off n);have hl:=n8.1;have As:agg=false->n=1:=λ e=>by have:=ln e;simp at this;omega
  refine GU hm ?_ w5;simp only[execOp,l9,Sem.run_bind,Instr.field,run_underlying hu,Result.andThen_ok,hf,cu,asAgg,Sem.run_pure,ho];rw[Aiz fd.type agg inf jk hi vs off n w7 (by omega) As];rfl
 ·cases hp
theorem Aey (hm:CY B S w0 m) (hs:D9 B S m ρ a.eval) {len b9:Nat} {x' i':BH} (h:CH P num o.op (.a9 (some len) b9 x' i')=true) {k:IntKind} {n:Int} {s t i0 j:Nat} (o9:ρ i' = .int k n) (hx:ρ x' = .ptr s t i0 j) (h0:0<=n) (hn:n<len) :
  EG B S w0 P o a m (.val (.ptr s t i0 (j+n.toNat*b9))):=by
 obtain ⟨ty,x,i,e,inf,l9,h1,h2,hi,w7,ew⟩:=iD h;rcases ew with ⟨rq,hl,hu,l8⟩|⟨hl,_⟩
 ·obtain rfl:len=rq:=by simpa using hl
  obtain ⟨ad,hv,ht,hb⟩:=cK (hx ▸ hs x x' h1);have wc:=OC (o9 ▸ hs i i' h2);refine GU hm (u := .pointer (some (ad.add (n.toNat*b9)))) ?_ (.ca (.one (.ptr s t i0 (j+n.toNat*b9) _ ht λ b l7 => ?_)))
  ·simp [execOp,l9,hv,wc,Instr.indexAt,asIntOf,run_underlying hu,Instr.sureAddr,sizeOf,typeInfo,hi,w7,h0,hn]
  ·obtain ⟨g,hg,rfl⟩:=hb b l7
   exact ⟨g,hg,by rw[NS];simp;omega⟩
 ·cases hl
theorem Aez (hm:CY B S w0 m) (hs:D9 B S m ρ a.eval) {len b9:Nat} {x' i':BH} (h:CH P num o.op (.a9 (some len) b9 x' i')=true) {k:IntKind} {n:Int} {cs:List AV} (o9:ρ i' = .int k n) (hx:ρ x' = .u7 cs) (h0:0<=n) (hn:n<len) :
  EG B S w0 P o a m (.val (.u7 (cs.drop (n.toNat*b9)))):=by
 obtain ⟨ty,x,i,e,inf,l9,h1,h2,hi,w7,ew⟩:=iD h;rcases ew with ⟨rq,hl,hu,l8⟩|⟨hl,_⟩
 ·obtain rfl:len=rq:=by simpa using hl
  obtain ⟨b,ob,u,l,hv,hR,hc,hr⟩:=mC (hx ▸ hs x x' h1);have wc:=OC (o9 ▸ hs i i' h2);refine GU hm (u := .pointer (some ⟨b,ob+n.toNat*b9,none⟩)) ?_ (.ca (.one (.u7 _ b (ob+n.toNat*b9) (λ j=>u (n.toNat*b9+j)) l (λ m7=>hR (λ e=>m7 (by simp [e]))) (λ j c hj => ?_) (λ j c hj => ?_))))
  ·simp [execOp,l9,hv,wc,Instr.indexAt,asIntOf,run_underlying hu,Instr.sureAddr,sizeOf,typeInfo,hi,w7,h0,hn,NS]
  ·rw[List.getElem?_drop]at hj
   rw[Nat.add_assoc];exact hc _ c hj
  ·rw[List.getElem?_drop]at hj
   exact hr _ c hj
 ·cases hl
theorem Nn (ty e:TypeId) (inf:TypeInfo) (hu:P.underlying ty=some (.slice e)) (hi:P.info? e=some inf) (ad:Addr) (len cap:Nat) (k:IntKind) (n:Int) (h0:0<=n) (hn:n<len) (w:World) :
  (Instr.indexAt ty (.slice (some ad) len cap) (.int k n)).run P w = .ok (.pointer (some (ad.add (n.toNat*inf.size)))) w:=by
 simp [Instr.indexAt,asIntOf,run_underlying hu,sizeOf,typeInfo,hi,h0,hn]
theorem AeA (hm:CY B S w0 m) (hs:D9 B S m ρ a.eval) {b9:Nat} {x' i':BH} (h:CH P num o.op (.a9 none b9 x' i')=true) {k:IntKind} {n:Int} {s t z off len:Nat} (o9:ρ i' = .int k n) (hx:ρ x' = .row s t z off len) (h0:0<=n) (hn:n<len) (hz:z=b9) :
  EG B S w0 P o a m (.val (.ptr s t (off+n.toNat) 0)):=by
 obtain ⟨ty,x,i,e,inf,l9,h1,h2,hi,w7,ew⟩:=iD h;rcases ew with ⟨_,hl,_⟩|⟨_,hu,_⟩
 ·cases hl
 ·obtain ⟨ad,cap,hv,ht,fv,kp,ha,hb⟩:=ZT (hx ▸ hs x x' h1)
  have wc:=OC (o9 ▸ hs i i' h2);obtain ⟨Cg,rfl⟩:=Option.isSome_iff_exists.1 (ha (by omega));refine GU hm (u := .pointer (some (Cg.add (n.toNat*b9)))) ?_ (.ca (.one (.ptr s t (off+n.toNat) 0 _ ht λ b l7 => ?_)))
  ·simp only[execOp,l9,hv,wc,Sem.run_bind]
   rw[Nn ty e inf hu hi Cg len cap k n h0 hn,w7];rfl
  ·obtain ⟨qf,ew⟩:=hb b l7
   rcases ew with ⟨wg,_⟩|⟨g,arr,e',hg,lf,_,_⟩
   ·omega
   ·obtain rfl:Cg=⟨g,off*z,none⟩:=by simpa using lf
    exact ⟨g,hg,by rw[NS,qf,<-hz,Nat.add_mul];rfl⟩
theorem AeB (hm:CY B S w0 m) (hs:D9 B S m ρ a.eval) {b9:Nat} {x' i':BH} (h:CH P num o.op (.a9 none b9 x' i')=true) {k:IntKind} {n:Int} {l:Bool} {es:List (List AV)} {cs:List AV} (o9:ρ i' = .int k n) (hx:ρ x' = .sl l es) (h0:0<=n) (hn:es[n.toNat]? = some cs) (hz:cs.length=b9) :
  EG B S w0 P o a m (.val (.u7 cs)):=by
 obtain ⟨ty,x,i,e,inf,l9,h1,h2,hi,w7,ew⟩:=iD h;rcases ew with ⟨_,hl,_⟩|⟨_,hu,_⟩
 ·cases hl
 ·have mh:=gJ (hx ▸ hs x x' h1)
  have wc:=OC (o9 ▸ hs i i' h2);have l8:n.toNat<es.length:=(zS hn).1;generalize cu:a.eval x=v at mh;cases mh with
  | jx=>simp at l8
  | sl _ _ b ob v9 cap u m7 hp hR ck jt hc hr =>
   have Gf:v9=b9:=by
    rw[<-hz];exact (jt cs (zM hn)).symm
   subst Gf;refine GU hm (u := .pointer (some ⟨b,ob+n.toNat*v9,none⟩)) ?_ (.ca (.one (.u7 _ b (ob+n.toNat*v9) (u n.toNat) l (λ_=>hR) (λ j c hj => ?_) (λ j c hj=>hr _ cs hn j c hj))))
   ·simp only[execOp,l9,cu,wc,Sem.run_bind]
    rw[Nn ty e inf hu hi ⟨b,ob,none⟩ es.length cap k n h0 (by omega),w7,NS];rfl
   ·rw[Nat.add_assoc]
    exact hc _ cs hn j c hj
end
end Go.e6

namespace Go.e6
open Go.RowKit
section
variable {B:Nat} {S:Nat->Prop} {w0:World} {m:M}
variable {P:Program} {num:Nat->Nat} {o:Oper} {a:Act} {ρ:BH->AV}
theorem qI (t:TypeId) (agg:Bool) (n:Nat) (jk : ∀ w,(isAgg t).run P w = .ok agg w) (hn:if agg then ∃ i,P.info? t=some i/\i.size=n else n=1) (ad:Addr) (vs:List Value) (hl:vs.length=n) (w:World)
  (hc : ∀ q v,vs[q]? = some v->w.cell? (ad.add q)=some v):(Instr.loadAt t (.pointer (some ad))).run P w = .ok (if agg then .agg vs.toArray else vs.getD 0 undef) w:=by
 unfold Instr.loadAt loadVar;simp only[Instr.sureAddr,Sem.run_bind,Sem.run_pure,Result.andThen_ok,jk w];cases agg with
 | true =>
  simp only[if_true]at hn;obtain ⟨i,hi,hs⟩:=hn;have:=run_loadCells_list (P:=P) w ad vs hc
  simp [sizeOf,typeInfo,hi,hs,<-hl,this]
 | false =>
  simp only[Bool.false_eq_true,if_false]at hn ⊢;have l8:0<vs.length:=by omega
  have h0:=hc 0 vs[0] (zE l8);have wv:w.cell? ad=some vs[0]:=by simpa [Addr.add] using h0
  simp [load,Sem.run,wv,l8]
theorem Mg (hm:CY B S w0 m) {s t i j n:Nat} {cs:List AV} (h:m.own.pd s t i j n=some cs) : ∃ b g arr e,m.own.get s t=some b/\(0<n->m.ν s t=some g/\m.w.heap[g]? = some (.cells arr e (0,0))) /\
  ∃ vs:List Value,vs.length=n/\CL B S m cs vs /\ ∀ q v,vs[q]? = some v->arr[i*b.b9+j+q]? = some v:=by
 unfold BC.pd at h;cases hb:m.own.get s t with
 | none=>simp [hb]at h
 | some b =>
  simp only[hb]at h;cases he:b.es[i]? with
  | none=>simp [he]at h
  | some ds =>
   simp only[he,part]at h;split at h
   ·rename_i hle
    obtain rfl:(ds.drop j).take n=cs:=by simpa using h
    obtain ⟨hz,ef⟩:=hm.e7 s t b hb;cases hν:m.ν s t with
    | none =>
     rw[hν]at ef;rw[ef]at he;simp at he
    | some g =>
     rw[hν]at ef;obtain ⟨hB,arr,e,hh,ag⟩:=ef;have w7 : ∀ q,q<n -> ∃ u,arr[i*b.b9+j+q]? = some u:=λ q hq=>by
      have l8:j+q<ds.length:=by omega
      obtain ⟨u,hu,_⟩:=ag i ds he (j+q) ds[j+q] (zE l8);exact ⟨u,by rw[<-hu];congr 1;omega⟩
     refine ⟨b,g,arr,e,rfl,λ_=>⟨rfl,hh⟩,(arr.toList.drop (i*b.b9+j)).take n,?_,⟨?_,?_⟩,?_⟩
     ·rw[List.length_take,List.length_drop]
      rcases Nat.eq_zero_or_pos n with h0|h0
      ·omega
      ·obtain ⟨u,hu⟩:=w7 (n-1) (by omega)
       have:=(Array.getElem?_eq_some_iff.1 hu).1
       simp;omega
     ·rw[List.length_take,List.length_take,List.length_drop,List.length_drop]
      rcases Nat.eq_zero_or_pos n with h0|h0
      ·omega
      ·obtain ⟨u,hu⟩:=w7 (n-1) (by omega)
       have:=(Array.getElem?_eq_some_iff.1 hu).1
       simp;omega
     ·intro q c v hq hv
      rw[List.getElem?_take]at hq hv;split at hq
      ·rename_i Fm
       rw[if_pos Fm]at hv;rw[List.getElem?_drop]at hq hv;obtain ⟨u,hu,hc⟩:=ag i ds he (j+q) c hq;have:some u=some v:=by
        rw[<-hu,<-hv];simp only[Array.getElem?_toList];congr 1;omega
       obtain rfl:u=v:=by simpa using this
       exact hc
      ·cases hq
     ·intro q v hv
      rw[List.getElem?_take]at hv;split at hv
      ·rw[List.getElem?_drop]at hv
       simpa using hv
      ·cases hv
   ·cases h
theorem fZ {w:World} {g p:Nat} {arr:Array Value} {e:TypeId} (h:w.heap[g]? = some (.cells arr e (0,0))):w.cell? ⟨g,p,none⟩=arr[p]? := by
 simp [World.cell?,h]
theorem AeD (hm:CY B S w0 m) (hs:D9 B S m ρ a.eval) {agg:Bool} {n:Nat} {x':BH} (h:CH P num o.op (.ld agg n x')=true) {s t i j:Nat} {cs:List AV} {v:AV} (hx:ρ x' = .ptr s t i j) (hl:m.own.pd s t i j n=some cs) (hv:QP agg cs=some v) :
  EG B S w0 P o a m (.val v):=by
 obtain ⟨ty,x,l9,h1,jk,hn⟩:=yV h;obtain ⟨ad,cu,ht,hb⟩:=cK (hx ▸ hs x x' h1);obtain ⟨b,g,arr,e,o0,hg,vs,nj,n8,ic⟩:=Mg hm hl;obtain ⟨w5,_⟩:=iN hv n8;refine GU hm ?_ w5;simp only[execOp,l9,Sem.run_bind,cu];rw[qI ty agg n jk hn ad vs nj m.w (λ q u hq => ?_)]
 ·rfl
 ·have l8:q<vs.length:=(zS hq).1
  obtain ⟨Bg,ko⟩:=hg (by omega);obtain ⟨g',eu,rfl⟩:=hb b o0;obtain rfl:g=g':=by rw[Bg]at eu;simpa using eu
  rw[NS,fZ ko];exact ic q u hq
theorem AeC (hm:CY B S w0 m) (hs:D9 B S m ρ a.eval) {agg:Bool} {n:Nat} {x':BH} (h:CH P num o.op (.ld agg n x')=true) {cs ds:List AV} {v:AV} (hx:ρ x' = .u7 cs) (hl:part cs 0 n=some ds) (hv:QP agg ds=some v) :
  EG B S w0 P o a m (.val v):=by
 obtain ⟨ty,x,l9,h1,jk,hn⟩:=yV h;obtain ⟨b,ob,u,l,cu,hR,hc,hr⟩:=mC (hx ▸ hs x x' h1);unfold e6.part at hl;split at hl
 ·rename_i hle
  obtain rfl:(cs.drop 0).take n=ds:=by simpa using hl
  have n8:CL B S m ((cs.drop 0).take n) ((List.range n).map u):=by
   refine ⟨by simp;omega,λ q c v' hq jg => ?_⟩;simp only[List.drop_zero,List.getElem?_take]at hq;split at hq
   ·rename_i Fm
    simp [Fm]at jg;subst jg;exact .rd (hr q c hq)
   ·cases hq
  obtain ⟨w5,_⟩:=iN hv n8;refine GU hm ?_ w5;simp only[execOp,l9,Sem.run_bind,cu];rw[qI ty agg n jk hn ⟨b,ob,none⟩ ((List.range n).map u) (by simp) m.w (λ q w' hq => ?_)]
  ·rfl
  ·have Fm:q<n:=by have:=(zS hq).1;simpa using this
   simp [Fm]at hq;subst hq;rw[NS];exact hc q cs[q] (zE (by omega))
 ·cases hl
theorem qT {α:Type} (l:List α) (off:Nat) (vs:List α) (h:off+vs.length<=l.length) (q:Nat):(l.take off++vs++l.drop (off+vs.length))[q]? = if q<off then l[q]? else if q<off+vs.length then vs[q-off]? else l[q]? := by
 rw[List.append_assoc];by_cases h1:q<off
 ·rw[if_pos h1,List.getElem?_append_left (by simp;omega),List.getElem?_take,if_pos h1]
 ·rw[if_neg h1,List.getElem?_append_right (by simp;omega)]
  have e1:(l.take off).length=off:=by simp;omega
  rw[e1];by_cases h2:q<off+vs.length
  ·rw[if_pos h2,List.getElem?_append_left (by omega)]
  ·rw[if_neg h2,List.getElem?_append_right (by omega),List.getElem?_drop]
   congr 1;omega
theorem tG (hm:CY B S w0 m) {g:Nat} (hB:B<=g) (arr:Array Value):Below B w0 (m.w.setRow g arr) :=
 hm.below.trans ⟨rfl,rfl,rfl,by simp,λ k hk=>setRow_other _ _ _ _ (by omega)⟩
theorem vJ (hm:CY B S w0 m) (hs:D9 B S m ρ a.eval) {n:Nat} {x' v':BH} (h:CH P num o.op (.st n x' v')=true) {s t i j:Nat} {vs:List AV} {n0:BC} (hx:ρ x' = .ptr s t i j) (hv:cellsOf (ρ v')=some vs) (hn:vs.length=n) (m9:m.own.ma s t i j vs=some n0) :
  EG B S w0 P o a m (.dt (.g8 []) n0):=by
 obtain ⟨ty,x,v,inf,l9,h1,h2,hi,w7⟩:=Ahi h;obtain ⟨ad,cu,ht,hb⟩:=cK (hx ▸ hs x x' h1);have n8:=gI (hs v v' h2) hv;unfold BC.ma at m9;cases o0:m.own.get s t with
 | none=>simp [o0]at m9
 | some b =>
  simp only[o0]at m9;cases he:b.es[i]? with
  | none=>simp [he]at m9
  | some cs =>
   simp only[he]at m9;split at m9
   ·rename_i hle
    obtain rfl:=Option.some.inj m9;obtain ⟨hz,ef⟩:=hm.e7 s t b o0;obtain ⟨g,hg,rfl⟩:=hb b o0;rw[hg]at ef;obtain ⟨hB,arr,e,hh,ag⟩:=ef;have Jf:cs.length=b.b9:=hz cs (zM he);have hlen:(a.eval v).cells.toList.length=vs.length:=n8.1.symm;have ix:i<b.es.length:=(zS he).1;have Bm:i*b.b9+j+vs.length<=arr.size:=by
     rcases Nat.eq_zero_or_pos vs.length with h0|h0
     ·rcases Nat.eq_zero_or_pos j with Sc|Sc
      ·rw[h0,Sc]
       rcases Nat.eq_zero_or_pos i with uj|uj
       ·rw[uj];omega
       ·rcases Nat.eq_zero_or_pos b.b9 with fv|fv
        ·rw[fv];omega
        ·have Sa:i-1<b.es.length:=by omega
         have jr:(b.es[i-1]).length=b.b9:=hz _ (List.getElem_mem Sa);obtain ⟨u,hu,_⟩:=ag (i-1) _ (zE Sa) (b.b9-1) _ (zE (by omega));have:=(Array.getElem?_eq_some_iff.1 hu).1
         have e1:(i-1)*b.b9+b.b9=i*b.b9:=by
          rw[<-Nat.succ_mul];congr 1;omega
         omega
      ·obtain ⟨u,hu,_⟩:=ag i cs he (j-1) cs[j-1] (zE (by omega))
       have:=(Array.getElem?_eq_some_iff.1 hu).1
       omega
     ·obtain ⟨u,hu,_⟩:=ag i cs he (j+vs.length-1) cs[j+vs.length-1] (zE (by omega))
      have:=(Array.getElem?_eq_some_iff.1 hu).1
      omega
    have ln:=Ady n8;have ve:=run_storeCells_at (P:=P) g (i*b.b9+j) e (a.eval v).cells.toList 0 arr m.w hh (by rw[hlen];omega) ln;generalize mu:(arr.toList.take (i*b.b9+j+0)++(a.eval v).cells.toList++arr.toList.drop (i*b.b9+j+0+(a.eval v).cells.toList.length)).toArray=v8 at ve;have zj : ∀ p,v8[p]? = if p<i*b.b9+j then arr[p]? else if p<i*b.b9+j+vs.length then (a.eval v).cells.toList[p-(i*b.b9+j)]? else arr[p]? := λ p=>by
     rw[<-mu];simp only[Nat.add_zero,List.getElem?_toArray];rw[qT _ _ _ (by rw[hlen];simpa using Bm),hlen];simp only[Array.getElem?_toList]
    have oz:v8.size=arr.size:=by
     rw[<-mu];simp [hlen];have:=hlen
     simp at this;omega
    obtain ⟨k1,k2⟩:=Aji hm s t b ⟨b.b9,b.es.set i (splice cs j vs)⟩ o0 g hg arr v8 e hh rfl (λ y hy=>by
      rcases List.mem_or_eq_of_mem_set hy with hy|hy
      ·exact hz y hy
      ·rw[hy,<-Jf];simp [splice];omega) oz
     (λ i' er o9 q c hq=>by
      show ∃ u,v8[i'*b.b9+q]? = some u/\_;change (b.es.set i (splice cs j vs))[i']? = some er at o9;by_cases Sb:i'=i
      ·subst Sb
       rw[List.getElem?_set_self ix]at o9;obtain rfl:splice cs j vs=er:=by simpa using o9
       unfold splice at hq;rw[qT _ _ _ hle]at hq;rw[zj];by_cases zw:q<j
       ·rw[if_pos zw]at hq
        rw[if_pos (by omega)];exact ag i' cs he q c hq
       ·rw[if_neg zw]at hq
        rw[if_neg (by omega)];by_cases Cz:q<j+vs.length
        ·rw[if_pos Cz]at hq
         rw[if_pos (by omega)];obtain ⟨u,hu,fq⟩:=ZR n8 hq;exact ⟨u,by rw[<-hu];congr 1;omega,fq⟩
        ·rw[if_neg Cz]at hq
         rw[if_neg (by omega)];exact ag i' cs he q c hq
      ·rw[List.getElem?_set_ne (by omega)]at o9
       have Sj:q<b.b9:=by
        rw[<-hz er (zM o9)];exact (zS hq).1
       obtain ⟨u,hu,fq⟩:=ag i' er o9 q c hq;refine ⟨u,?_,fq⟩;rw[zj,<-hu];rcases Nat.lt_or_gt_of_ne Sb with l8|rf
       ·have:(i'+1)*b.b9<=i*b.b9:=zR _ l8
        rw[Nat.succ_mul]at this;rw[if_pos (by omega)]
       ·have:(i+1)*b.b9<=i'*b.b9:=zR _ rf
        rw[Nat.succ_mul]at this;rw[if_neg (by omega),if_neg (by omega)])
     (m.w.setRow g v8) (tG hm hB v8) (by simp) (λ k hk=>setRow_other _ _ _ _ hk) (setRow_heap _ _ _ _ _ _ hh)
    intro K Q hK;refine Ajr (w':=m.w.setRow g v8) ?_ (hK undef ⟨m.ν,_,m.w.setRow g v8⟩ rfl k1 k2 zX);have Ky:(a.eval v).cells.size=inf.size:=by rw[w7,<-hn,<-hlen];simp
    simp only[execOp,l9,cu,Instr.storeAt,storeVar,Instr.sureAddr,Sem.run_bind,Sem.run_pure,Result.andThen_ok,sizeOf,typeInfo,run_program,hi];rw[if_neg (by simpa using Ky)];simp only[Sem.run_bind,Sem.run_pure,Result.andThen_ok,ve]
   ·cases m9
theorem AeF (hm:CY B S w0 m) (hs:D9 B S m ρ a.eval) {s b9 bytes:Nat} {zero:List AV} {l' c':BH} (h:CH P num o.op (.mk s b9 bytes zero l' c')=true) {kl kc:IntKind} {l c:Int} (hl:ρ l' = .int kl l) (hc:ρ c' = .int kc c) (h0:0<=l) (kp:l<=c) (hb:c*bytes<=IW) (Ig:c<=9223372036854775807) (hz:zero.length=b9) :
  EG B S w0 P o a m (.new s ⟨b9,List.replicate l.toNat zero⟩ (λ t => .row s t b9 0 l.toNat)):=by
 obtain ⟨ty,lx,cx,e,inf,z,l9,h1,h2,hu,hi,w7,qe,fv,jt,m7⟩:=Ahd h;have el:=OC (hl ▸ hs lx l' h1);have ec:=OC (hc ▸ hs cx c' h2);have n8:CL B S m zero z.cells.toList:=ZV jt;have hzs:z.cells.size=b9:=by rw[<-hz,n8.1];simp
 refine vI hm s b9 l.toNat c.toNat _ (madeCells z.cells (c.toNat*inf.size)) e (Nat.pos_of_ne_zero m7) (by omega) (by rw[size_madeCells,w7];exact Nat.le_refl _) (λ x hx=>by rw[(List.mem_replicate.1 hx).2,hz]) (λ i cs o9 j c1 hj => ?_) ?_
 ·rw[List.getElem?_replicate]at o9
  split at o9
  ·rename_i ix
   obtain rfl:zero=cs:=by simpa using o9
   obtain ⟨u,lq,fq⟩:=ZR n8 hj;refine ⟨u,?_,fq⟩;have gj:j<b9:=by rw[<-hz];exact (zS hj).1
   have l8:i*b9+j<c.toNat*inf.size:=by
    rw[w7];have h3:(i+1)*b9<=c.toNat*b9:=zR _ (by omega);rw[Nat.succ_mul]at h3;omega
   have Jx:(i*b9+j)%z.cells.size=j:=by rw[hzs,Nat.add_comm,Nat.add_mul_mod_self_right,Nat.mod_eq_of_lt gj]
   have sv:z.cells[j]? = some u:=by simpa using lq
   have hjs:j<z.cells.size:=(Array.getElem?_eq_some_iff.1 sv).1;have lu:z.cells[j]=u:=(Array.getElem?_eq_some_iff.1 sv).2;simp [madeCells,l8,Jx,hjs,lu]
  ·cases o9
 ·have:=run_make (P:=P) m.w ty e inf z hu hi fv kl kc l c h0 kp (by rw[qe,Int.mul_comm];simp only[IW]at hb;omega) Ig
  simp only[execOp,l9,el,ec,Sem.run_bind,this,Result.andThen_ok,Sem.run_pure]
theorem Aeu (hm:CY B S w0 m) (hs:D9 B S m ρ a.eval) {x':BH} {i:Nat} (h:CH P num o.op (.ext x' i)=true) {vs:List AV} {v:AV} (hx:ρ x' = .g8 vs) (hv:vs[i]? = some v):EG B S w0 P o a m (.val v):=by
 obtain ⟨x,l9,h1⟩:=Ag9 h;obtain ⟨us,cu,hl,hc⟩:=mE (hx ▸ hs x x' h1);have l8:i<us.length:=by rw[<-hl];exact (zS hv).1
 refine GU hm (u:=us[i]) ?_ (.ca (hc i v us[i] hv (zE l8)));simp [execOp,l9,cu,Instr.extract,l8]
theorem AeE (hm:CY B S w0 m) (hs:D9 B S m ρ a.eval) {x':BH} (h:CH P num o.op (.len x')=true) {n:Nat} (hx:WG (ρ x')=some n):EG B S w0 P o a m (.val (.int .i64 n)):=by
 obtain ⟨x,t,e,l9,h1,hu⟩:=Ahc h;have w5:=hs x x' h1;obtain ⟨ad,cap,cu⟩ : ∃ ad cap,a.eval x = .slice ad n cap:=by
  generalize ρ x'=av at *;cases av with
  | sl l es =>
   have hr:=gJ w5;simp only[WG,Option.some.injEq]at hx;subst hx;generalize a.eval x=v at *;cases hr with
   | jx=>exact ⟨_,_,rfl⟩
   | sl=>exact ⟨_,_,rfl⟩
  | row s t z off len =>
   obtain ⟨ad,cap,hv,_⟩:=ZT w5;simp only[WG,Option.some.injEq]at hx;subst hx;exact ⟨ad,cap,hv⟩
  | nil =>
   simp only[WG,Option.some.injEq]at hx;subst hx;exact ⟨_,_,ZS w5⟩
  | _=>simp [WG]at hx
 refine GU hm (u := .int .i64 n) ?_ (XH _ _);simp [execOp,l9,resolve,invoke,builtin,cu,Builtin.len_,run_underlying hu,goInt]
theorem YI (hs:D9 B S m ρ a.eval) : ∀ {xs:List Operand} {ys:List BH},GK xs ys=true->xs.length=ys.length /\ ∀ (j:Nat) (x:Operand) (y:BH),xs[j]? = some x->ys[j]? = some y->CV B S m (ρ y) (a.eval x)
 | [],[],_=>⟨rfl,λ j x y h=>by simp at h⟩
 | x::r,y::l,h=>by
  simp only[GK,Bool.and_eq_true]at h;obtain ⟨ih1,kg⟩:=YI hs h.2;refine ⟨by simp [ih1],λ j x' y' hx hy => ?_⟩;cases j with
  | zero=>simp at hx hy;subst hx hy;exact hs _ _ h.1
  | succ j=>exact kg j x' y' (by simpa using hx) (by simpa using hy)
 | [],_::_,h=>by simp [GK]at h
 | _::_,[],h=>by simp [GK]at h
theorem Np (mx:Bool) (hs:D9 B S m ρ a.eval) (w:World) : ∀ (xs:List Operand) (ys:List BH) (v:AV) (u:Value) (r:AV),GK xs ys=true->CV B S m v u->QN mx v (ys.map ρ)=some r->(∃ k n,v = .int k n) -> ∃ k n,r = .int k n /\
  ((xs.map a.eval).foldlM (if mx then Builtin.max2 else Builtin.min2) u).run P w = .ok (.int k n) w
 | [],[],v,u,r,_,hc,hm,⟨k,n,hv⟩=>by
  simp only[List.map_nil,QN,Option.some.injEq]at hm;subst hm hv;obtain rfl:=OC hc;exact ⟨k,n,rfl,by simp⟩
 | x::xr,y::yr,v,u,r,he,hc,hm,⟨k,n,hv⟩=>by
  simp only[GK,Bool.and_eq_true]at he;simp only[List.map_cons,QN]at hm;have hx:=hs x y he.1;subst hv;obtain rfl:=OC hc;cases hy:ρ y with
  | int k' n' =>
   rw[hy]at hx hm;have hxe:=OC hx;simp only[WK]at hm;obtain ⟨k2,n2,rfl,h2⟩:=Np mx hs w xr yr _ (.int k (if mx then (if n'>n then n' else n) else (if n'<n then n' else n))) r he.2 (XH _ _) hm ⟨_,_,rfl⟩;refine ⟨k2,n2,rfl,?_⟩;simp only[List.map_cons,List.foldlM_cons,Sem.run_bind,hxe];cases mx
   ·simpa [Builtin.min2] using h2
   ·simpa [Builtin.max2] using h2
  | _=>rw[hy]at hm;simp [WK]at hm
 | [],_::_,_,_,_,he,_,_,_=>by simp [GK]at he
 | _::_,[],_,_,_,he,_,_,_=>by simp [GK]at he
theorem AeH (hm:CY B S w0 m) (hs:D9 B S m ρ a.eval) {mx:Bool} {n9:List BH} (h:CH P num o.op (.mm mx n9)=true) {v r:AV} {l:List AV} (hx:n9.map ρ=v::l) (hv:QN mx v l=some r) (hi : ∃ k n,v = .int k n):EG B S w0 P o a m (.val r):=by
 obtain ⟨xs,ts,l9,he⟩:=yW h;cases n9 with
 | nil=>simp at hx
 | cons y yr =>
  simp only[List.map_cons,List.cons.injEq]at hx;obtain ⟨rfl,rfl⟩:=hx;obtain ⟨xl⟩:=xs;cases xl with
  | nil=>simp [GK]at he
  | cons x xr =>
   simp only[GK,Bool.and_eq_true]at he;obtain ⟨k,n,rfl,q7⟩:=Np (P:=P) mx hs m.w xr yr (ρ y) (a.eval x) r he.2 (hs x y he.1) hv hi;refine GU hm (u := .int k n) ?_ (XH _ _);cases mx
   ·simp only[execOp,l9,resolve,invoke,builtin,Builtin.min_,Sem.run_bind,Sem.run_pure,Result.andThen_ok]at q7 ⊢
    simp at q7 ⊢;rw[q7];rfl
   ·simp only[execOp,l9,resolve,invoke,builtin,Builtin.max_,Sem.run_bind,Sem.run_pure,Result.andThen_ok]at q7 ⊢
    simp at q7 ⊢;rw[q7];rfl
end
end Go.e6

namespace Go.e6
open Go.RowKit
section
variable {B:Nat} {S:Nat->Prop} {w0:World} {m:M}
variable {P:Program} {num:Nat->Nat} {o:Oper} {a:Act} {ρ:BH->AV}
def NT (ρ:BH->AV) (d:Nat):Option BH->Option Int
 | none=>some d
 | some y=>match ρ y with | .int _ n=>some n|_=>none
theorem jA (ty e:TypeId) (inf:TypeInfo) (hu:P.underlying ty=some (.slice e)) (hi:P.info? e=some inf) (hs:D9 B S m ρ a.eval) {lo o9:Option Operand} {nx Ew:Option BH} (nu:VG lo nx=true) (Gy:VG o9 Ew=true)
  (ad:Option Addr) (len cap:Nat) (l h:Int) (hl:NT ρ 0 nx=some l) (hh:NT ρ len Ew=some h) (h0:0<=l) (hlh:l<=h) (hhl:h<=len) (kp:len<=cap) (w:World) :
  (Instr.sliceAt ty (.slice ad len cap) (lo.map a.eval) (o9.map a.eval) none).run P w = .ok (.slice (if cap=l.toNat then ad else ad.map (·.add (l.toNat*inf.size))) (h.toNat-l.toNat) (cap-l.toNat)) w:=by
 have wc : ∀ {x:Option Operand} {y:Option BH} {d:Nat} {n:Int},VG x y=true->NT ρ d y=some n->(x=none/\y=none/\n=d) \/ ∃ x' k,x=some x'/\a.eval x' = .int k n:=by
  intro x y d n nk hb;cases x with
  | none=>cases y with
   | none=>simp [NT]at hb;exact .inl ⟨rfl,rfl,hb.symm⟩
   | some y=>simp [VG]at nk
  | some x=>cases y with
   | none=>simp [VG]at nk
   | some y =>
    simp only[VG]at nk;simp only[NT]at hb;cases hy:ρ y with
    | int k q =>
     rw[hy]at hb;simp only[Option.some.injEq]at hb;subst hb;exact .inr ⟨x,k,rfl,OC (hy ▸ hs x y nk)⟩
    | _=>rw[hy]at hb;cases hb
 have zn:h<=(cap:Int):=by omega
 unfold Instr.sliceAt Instr.slice Instr.sliceBounds;rcases wc nu hl with ⟨rfl,_,rfl⟩|⟨x1,k1,rfl,e1⟩<;>rcases wc Gy hh with ⟨rfl,_,rfl⟩|⟨x2,k2,rfl,e2⟩
 ·simp [run_underlying hu,sizeOf,typeInfo,hi]
 ·have Ay:=run_sliceBound (P:=P) w k2 h cap .sliceAcap (by omega) zn
  simp [run_underlying hu,sizeOf,typeInfo,hi,e2,Ay]
 ·have s8:=run_sliceBound (P:=P) w k1 l len .sliceB h0 (by omega)
  simp [run_underlying hu,sizeOf,typeInfo,hi,e1,s8]
 ·have Ay:=run_sliceBound (P:=P) w k2 h cap .sliceAcap (by omega) zn
  have s8:=run_sliceBound (P:=P) w k1 l h.toNat .sliceB h0 (by omega);simp [run_underlying hu,sizeOf,typeInfo,hi,e1,e2,Ay,s8]
theorem AeL (hm:CY B S w0 m) (hs:D9 B S m ρ a.eval) {b9:Nat} {x':BH} {nx o9:Option BH} (h:CH P num o.op (.ig b9 x' nx o9)=true) (hx:ρ x' = .nil) (hl:NT ρ 0 nx=some 0) (hh:NT ρ 0 o9=some 0):EG B S w0 P o a m (.val .nil):=by
 obtain ⟨ty,x,lo,zr,e,inf,l9,h1,h2,h3,hu,hi,w7,m7⟩:=oV h;have cu:=ZS (hx ▸ hs x x' h1);have q7:=jA ty e inf hu hi hs h2 h3 none 0 0 0 0 hl hh (by omega) (by omega) (by omega) (by omega) m.w;refine GU hm (u := .slice none 0 0) ?_ (.ca (.one .nil));simp only[execOp,l9,cu,Sem.run_bind,Option.map_none,q7];rfl
theorem AeM (hm:CY B S w0 m) (hs:D9 B S m ρ a.eval) {b9:Nat} {x':BH} {nx o9:Option BH} (h:CH P num o.op (.ig b9 x' nx o9)=true) {s t z off len:Nat} {l u:Int} (hx:ρ x' = .row s t z off len) (hl:NT ρ 0 nx=some l) (hh:NT ρ len o9=some u) (h0:0<=l) (Ha:l<=u) (lu:u<=len) (hz:z=b9) :
  EG B S w0 P o a m (.val (.row s t z (off+l.toNat) (u.toNat-l.toNat))):=by
 obtain ⟨ty,x,lo,zr,e,inf,l9,h1,h2,h3,hu,hi,w7,m7⟩:=oV h;obtain ⟨ad,cap,cu,ht,fv,kp,ha,hb⟩:=ZT (hx ▸ hs x x' h1);have q7:=jA ty e inf hu hi hs h2 h3 ad len cap l u hl hh h0 Ha lu kp m.w;refine GU hm ?_ (.ca (.one (.row s t z (off+l.toNat) (u.toNat-l.toNat) (if cap=l.toNat then ad else ad.map (·.add (l.toNat*inf.size))) (cap-l.toNat) ht fv (by omega) (λ hp => ?_) λ b l7 => ?_)))
 ·simp only[execOp,l9,cu,Sem.run_bind,Option.map_none,q7]
  rfl
 ·rw[if_neg (by omega)]
  obtain ⟨Cg,rfl⟩:=Option.isSome_iff_exists.1 (ha (by omega));rfl
 ·obtain ⟨qf,ew⟩:=hb b l7
  refine ⟨qf,?_⟩;rcases ew with ⟨wg,jn⟩|⟨g,arr,e',hg,lf,Gx,hle⟩
  ·exact .inl ⟨by omega,by omega⟩
  ·by_cases hc:cap=l.toNat
   ·exact .inl ⟨by omega,by omega⟩
   ·refine .inr ⟨g,arr,e',hg,?_,Gx,?_⟩
    ·rw[if_neg hc,lf,w7,hz]
     simp only[Option.map_some,NS,Nat.add_mul]
    ·rw[show off+l.toNat+(cap-l.toNat)=off+cap by omega]
     exact hle
theorem AeN (hm:CY B S w0 m) (hs:D9 B S m ρ a.eval) {b9:Nat} {x':BH} {nx o9:Option BH} (h:CH P num o.op (.ig b9 x' nx o9)=true) {lt:Bool} {es:List (List AV)} {l u:Int} (hx:ρ x' = .sl lt es) (hl:NT ρ 0 nx=some l) (hh:NT ρ es.length o9=some u) (h0:0<=l) (Ha:l<=u) (lu:u<=es.length) (hz : ∀ e∈es,e.length=b9) :
  EG B S w0 P o a m (.val (.sl lt ((es.take u.toNat).drop l.toNat))):=by
 obtain ⟨ty,x,lo,zr,e,inf,l9,h1,h2,h3,hu,hi,w7,m7⟩:=oV h;have mh:=gJ (hx ▸ hs x x' h1);generalize cu:a.eval x=v at mh;cases mh with
 | jx _ ad cap =>
  have q7:=jA ty e inf hu hi hs h2 h3 ad 0 cap l u hl hh h0 Ha (by simpa using lu) (by omega) m.w;simp only[List.length_nil]at lu;rw[show (([]:List (List AV)).take u.toNat).drop l.toNat=[] by simp];refine GU hm (u := .slice (if cap=l.toNat then ad else ad.map (·.add (l.toNat*inf.size))) 0 (cap-l.toNat)) ?_ (.ca (.one (.rd (.jx lt _ _))));simp only[execOp,l9,cu,Sem.run_bind,Option.map_none,q7];rw[show u.toNat-l.toNat=0 by omega];rfl
 | sl _ _ b ob v9 cap uu uy hp hR ck jt hc hr =>
  have q7:=jA ty e inf hu hi hs h2 h3 (some ⟨b,ob,none⟩) es.length cap l u hl hh h0 Ha lu ck m.w;have Gf:v9=b9:=by
   cases es with
   | nil=>exact absurd rfl uy
   | cons q r=>rw[<-jt q (by simp),hz q (by simp)]
  subst Gf;by_cases fv:u.toNat-l.toNat=0
  ·have:(es.take u.toNat).drop l.toNat=[]:=by
    apply List.eq_nil_of_length_eq_zero;simp;omega
   rw[this];refine GU hm (u := .slice (if cap=l.toNat then some ⟨b,ob,none⟩ else (some (⟨b,ob,none⟩:Addr)).map (·.add (l.toNat*inf.size))) 0 (cap-l.toNat)) ?_ (.ca (.one (.rd (Rd.jx lt _ _))));simp only[execOp,l9,cu,Sem.run_bind,Option.map_none,q7];rw[fv];rfl
  ·have hlen:((es.take u.toNat).drop l.toNat).length=u.toNat-l.toNat:=by simp;omega
   have o0 : ∀ i,i<u.toNat-l.toNat->((es.take u.toNat).drop l.toNat)[i]? = es[l.toNat+i]? := λ i o9=>by
    rw[List.getElem?_drop,List.getElem?_take,if_pos (by omega)]
   refine GU hm (u := .slice (some ⟨b,ob+l.toNat*v9,none⟩) ((es.take u.toNat).drop l.toNat).length (cap-l.toNat)) ?_ (.ca (.one (.rd (.sl lt _ b (ob+l.toNat*v9) v9 (cap-l.toNat) (λ i j=>uu (l.toNat+i) j) (λ e=>fv (by rw[<-hlen,e];rfl)) hp hR (by rw[hlen];omega) (λ q hq=>jt q (List.mem_of_mem_take (List.mem_of_mem_drop hq))) (λ i q o9 j c hj => ?_) (λ i q o9 j c hj => ?_)))))
   ·simp only[execOp,l9,cu,Sem.run_bind,Option.map_none,q7]
    rw[if_neg (by omega),hlen,w7];simp only[Option.map_some,NS];rfl
   ·have ix:i<u.toNat-l.toNat:=by rw[<-hlen];exact (zS o9).1
    rw[o0 i ix]at o9;rw[show ob+l.toNat*v9+(i*v9+j)=ob+((l.toNat+i)*v9+j) by rw[Nat.add_mul];omega];exact hc _ q o9 j c hj
   ·have ix:i<u.toNat-l.toNat:=by rw[<-hlen];exact (zS o9).1
    rw[o0 i ix]at o9;exact hr _ q o9 j c hj
structure bE (B:Nat) (S:Nat->Prop) (m:M) (b9:Nat) (ys:List (List AV)) (ad:Option Addr) (news:List Value):Prop where
 len:news.length=ys.length*b9
 cells : ∀ b,ad=some b -> ∀ j v,news[j]? = some v->m.w.cell? (b.add j)=some v
 some_:ys≠[]->ad.isSome=true
 rel : ∀ i cs,ys[i]? = some cs -> ∀ j c,cs[j]? = some c -> ∃ u,news[i*b9+j]? = some u/\CC B S m c u
theorem Zl (b9 i j:Nat) (h:j<b9):(i*b9+j)/b9=i/\(i*b9+j)%b9=j:=by
 constructor
 ·rw[Nat.add_comm,Nat.add_mul_div_right _ _ (by omega),Nat.div_eq_of_lt h,Nat.zero_add]
 ·rw[Nat.add_comm,Nat.add_mul_mod_self_right,Nat.mod_eq_of_lt h]
theorem mQ (hm:CY B S w0 m) {av:AV} {v:Value} (hc:CV B S m av v) {ys:List (List AV)} (he:G0 m.own av=some ys) {b9:Nat} (hz : ∀ e∈ys,e.length=b9) (h0:0<b9) :
  ∃ ad cap news,v = .slice ad ys.length cap/\bE B S m b9 ys ad news:=by
 cases av with
 | sl l es =>
  simp only[G0,Option.some.injEq]at he;subst he;cases gJ hc with
  | jx _ ad cap=>exact ⟨ad,cap,[],rfl,by simp,λ b _ j v hv=>by simp at hv,λ h=>absurd rfl h,λ i cs hi=>by simp at hi⟩
  | sl _ _ b ob v9 cap uu uy hp hR ck jt n8 hr =>
   have Gf:v9=b9:=by
    cases es with
    | nil=>exact absurd rfl uy
    | cons q r=>rw[<-jt q (by simp),hz q (by simp)]
   subst Gf;refine ⟨some ⟨b,ob,none⟩,cap,(List.range (es.length*v9)).map (λ k=>uu (k/v9) (k%v9)),rfl,by simp,λ b' l7 j v hv => ?_,λ_=>rfl,λ i cs hi j c hj => ?_⟩
   ·obtain rfl:(⟨b,ob,none⟩:Addr)=b':=by simpa using l7
    rw[List.getElem?_map]at hv;have gj:j<es.length*v9:=by
     rcases Nat.lt_or_ge j (es.length*v9) with h|h
     ·exact h
     ·rw[List.getElem?_eq_none (by simpa using h)]at hv;cases hv
    rw[List.getElem?_range gj]at hv;simp only[Option.map_some,Option.some.injEq]at hv;subst hv;have hd:j/v9<es.length:=Nat.div_lt_of_lt_mul (by rw[Nat.mul_comm];exact gj);have Jw:j%v9<v9:=Nat.mod_lt _ h0;have et:(es[j/v9]).length=v9:=jt _ (List.getElem_mem hd);have:=n8 (j/v9) _ (zE hd) (j%v9) _ (zE (by rw[et];exact Jw))
    rw[NS,<-this];congr 2;have:=Nat.div_add_mod j v9
    rw[Nat.mul_comm]at this;omega
   ·have gj:j<v9:=by rw[<-jt cs (zM hi)];exact (zS hj).1
    have ix:i<es.length:=(zS hi).1;have l8:i*v9+j<es.length*v9:=by
     have:(i+1)*v9<=es.length*v9:=zR _ ix
     rw[Nat.succ_mul]at this;omega
    obtain ⟨e1,e2⟩:=Zl v9 i j gj;refine ⟨uu i j,?_,.rd (hr i cs hi j c hj)⟩;rw[List.getElem?_map,List.getElem?_range l8];simp [e1,e2]
 | nil =>
  simp only[G0,Option.some.injEq]at he;subst he;exact ⟨none,0,[],ZS hc,by simp,λ b hb=>(by cases hb),λ h=>absurd rfl h,λ i cs hi=>by simp at hi⟩
 | row s t z off len =>
  obtain ⟨ad,cap,hv,ht,fv,kp,ha,hb⟩:=ZT hc;simp only[G0]at he;cases o0:m.own.get s t with
  | none=>simp [o0]at he
  | some b =>
   simp only[o0]at he;split at he
   ·rename_i hle
    obtain ⟨hle,qf⟩:=hle;obtain rfl:=Option.some.inj he;have Td:((b.es.drop off).take len).length=len:=by simp;omega
    obtain ⟨_,ew⟩:=hb b o0;by_cases wg:len=0
    ·subst wg
     refine ⟨ad,cap,[],by simpa using hv,by simp,λ b _ j v hv=>by simp at hv,λ h=>absurd (by simp) h,λ i cs hi=>by simp at hi⟩
    ·rcases ew with ⟨h1,_⟩|⟨g,arr,e',hg,lf,Gx,Ap2⟩
     ·exact absurd h1 wg
     ·obtain ⟨jt,ef⟩:=hm.e7 s t b o0
      rw[hg]at ef;obtain ⟨hB,tf,e2,zq,ag⟩:=ef;rw[Gx]at zq;obtain ⟨rfl,rfl⟩:arr=tf/\e'=e2:=by simpa using zq
      have hez:b9=z:=by
       have l8:off<b.es.length:=by omega
       have h1:b.es[off]∈(b.es.drop off).take len:=by
        have:((b.es.drop off).take len)[0]? = some b.es[off]:=by
         rw[List.getElem?_take,if_pos (by omega),List.getElem?_drop];simp [l8]
        exact zM this
       rw[<-hz _ h1,jt _ (List.getElem_mem l8),qf]
      subst hez;have w7:off*b9+len*b9<=arr.size:=by
       have:(off+len)*b9<=(off+cap)*b9:=zR _ (by omega)
       rw[Nat.add_mul]at this;omega
      refine ⟨ad,cap,(arr.toList.drop (off*b9)).take (len*b9),by rw[Td];exact hv,by rw[Td];simp;omega,λ b' l7 j v jg => ?_,λ_=>by rw[lf];rfl,λ i cs hi j c hj => ?_⟩
      ·rw[lf]at l7
       obtain rfl:(⟨g,off*b9,none⟩:Addr)=b':=by simpa using l7
       rw[List.getElem?_take]at jg;split at jg
       ·rw[List.getElem?_drop]at jg
        rw[NS,fZ Gx];simpa using jg
       ·cases jg
      ·rw[List.getElem?_take]at hi
       split at hi
       ·rename_i ix
        rw[List.getElem?_drop]at hi;have gj:j<b9:=by rw[<-qf,<-jt cs (zM hi)];exact (zS hj).1
        obtain ⟨u,hu,fq⟩:=ag (off+i) cs hi j c hj;refine ⟨u,?_,fq⟩;have l8:i*b9+j<len*b9:=by
         have:(i+1)*b9<=len*b9:=zR _ ix
         rw[Nat.succ_mul]at this;omega
        rw[List.getElem?_take,if_pos l8,List.getElem?_drop,<-hu,qf];simp only[Array.getElem?_toList];congr 1;rw[Nat.add_mul];omega
       ·cases hi
   ·cases he
 | da v' =>
  cases v' with
  | bool b =>
   simp only[G0,Option.some.injEq]at he;subst he;obtain ⟨ad,cap,hv,_⟩:=uS hc;exact ⟨ad,cap,[],hv,by simp,λ b' l7 j v jg=>by simp at jg,λ h=>absurd rfl h,λ i cs hi=>by simp at hi⟩
  | _=>simp [G0]at he
 | _=>simp [G0]at he
theorem bE.one {b9:Nat} {ys:List (List AV)} {ad:Option Addr} {news:List Value} (h:bE B S m b9 ys ad news) (h0:0<b9) (hz : ∀ e∈ys,e.length=b9) : ∀ u∈news,u.oneCell'=true:=by
 intro u hu;obtain ⟨k,hk,rfl⟩:=List.getElem_of_mem hu;rw[h.len]at hk;have hd:k/b9<ys.length:=Nat.div_lt_of_lt_mul (by rw[Nat.mul_comm];exact hk);have Jw:k%b9<b9:=Nat.mod_lt _ h0;have et:(ys[k/b9]).length=b9:=hz _ (List.getElem_mem hd);obtain ⟨u',lq,hc⟩:=h.rel (k/b9) _ (zE hd) (k%b9) _ (zE (by rw[et];exact Jw));have kb:k/b9*b9+k%b9=k:=by
  have:=Nat.div_add_mod k b9
  rw[Nat.mul_comm]at this;exact this
 rw[kb]at lq;obtain rfl:news[k]=u':=by
  have:=(zS lq).2
  exact this
 exact hc.one
theorem bE.src {b9:Nat} {ys:List (List AV)} {ad:Option Addr} {news:List Value} (h:bE B S m b9 ys ad news) (h0:0<b9) (hz : ∀ e∈ys,e.length=b9) {t e:TypeId} (hu:P.underlying t=some (.slice e)) (cap:Nat):Src P b9 t (.slice ad ys.length cap) ys.length news m.w:=by
 cases ad with
 | none =>
  have yj:ys=[]:=by
   cases ys with
   | nil=>rfl
   | cons y r=>exact absurd (h.some_ (by simp)) (by simp)
  subst yj;have hn:news=[]:=List.eq_nil_of_length_eq_zero (by simpa using h.len);subst hn;exact Src.ofNil m.w hu cap
 | some b=>exact Src.ofSlice m.w hu b ys.length cap news h.len (h.cells b rfl) (h.one h0 hz)
theorem AhP (arr:Array Value) (off:Nat) (news:List Value) (h:off+news.length<=arr.size) (p:Nat):(arr.toList.take off++news++arr.toList.drop (off+news.length)).toArray[p]? = if p<off then arr[p]? else if p<off+news.length then news[p-off]? else arr[p]? := by
 simp only[List.getElem?_toArray];rw[qT _ _ _ (by simpa using h)];simp only[Array.getElem?_toList]
theorem Air (t tx e ex:TypeId) (i:TypeInfo) (ht:P.underlying t=some (.slice e)) (hx:P.underlying tx=some (.slice ex)) (hi:P.info? e=some i) (g off pf ry:Nat) (x:Value) (n:Nat) (news:List Value) (w:World) (hs:Src P i.size tx x n news w) (nf:pf+n<=ry) (arr:Array Value) (e':TypeId)
  (hh:w.heap[g]? = some (.cells arr e' (0,0))) (w7:off+pf*i.size+news.length<=arr.size) (ty:TypeId) :
  (Builtin.append_ #[t,tx] ty #[.slice (some ⟨g,off,none⟩) pf ry,x]).run P w = .ok (.slice (some ⟨g,off,none⟩) (pf+n) ry) (w.setRow g (arr.toList.take (off+pf*i.size)++news++arr.toList.drop (off+pf*i.size+news.length)).toArray):=by
 have m9:=run_storeCells_at (P:=P) g (off+pf*i.size) e' news 0 arr w hh (by omega) hs.one;simp only[Nat.add_zero]at m9;simp [Builtin.append_,run_underlying ht,run_underlying hx,sizeOf,typeInfo,hi,hs.len,nf,hs.cells,NS,m9]
theorem Mw (t tx e ex:TypeId) (i:TypeInfo) (ht:P.underlying t=some (.slice e)) (hx:P.underlying tx=some (.slice ex)) (hi:P.info? e=some i) (ad:Option Addr) (ry:Nat) (x:Value) (w:World) (hs:Src P i.size tx x 0 [] w) (ty:TypeId) :
  (Builtin.append_ #[t,tx] ty #[.slice ad 0 ry,x]).run P w = .ok (.slice ad 0 ry) w:=by
 have hc:=hs.cells;cases ad<;>simp [Builtin.append_,run_underlying ht,run_underlying hx,sizeOf,typeInfo,hi,hs.len,hc,storeCells]
theorem eB {x y:Operand} {t tx:TypeId} (l9:o.op = .call ⟨.builtin .append,#[x,y],#[t,tx]⟩) {u:Value} {w w':World} (h:(Builtin.append_ #[t,tx] o.type #[a.eval x,a.eval y]).run P w = .ok u w'):(execOp a.eval o).run P w = .ok (.value u) w':=by
 simp [execOp,l9,resolve,invoke,builtin,h]
theorem Agu (dp news:List Value) (z:Array Value) (k p:Nat) (h:p<dp.length+news.length):((dp++news).toArray++Builtin.zeroCells z k)[p]? = (dp++news)[p]? := by
 rw[Array.getElem?_append_left (by simpa using h)];simp
theorem Aim {b9 len:Nat} {xs ys:List (List AV)} {dp news:List Value} (gn:xs.length=len) (Kd:dp.length=len*b9) (hzx : ∀ e∈xs,e.length=b9)
  (hx : ∀ i cs,xs[i]? = some cs -> ∀ j c,cs[j]? = some c -> ∃ u,dp[i*b9+j]? = some u/\CC B S m c u)
  (hy : ∀ i cs,ys[i]? = some cs -> ∀ j c,cs[j]? = some c -> ∃ u,news[i*b9+j]? = some u/\CC B S m c u) :
  ∀ i cs,(xs++ys)[i]? = some cs -> ∀ j c,cs[j]? = some c -> ∃ u,(dp++news)[i*b9+j]? = some u/\CC B S m c u:=by
 intro i cs hi j c hj;by_cases ix:i<len
 ·rw[List.getElem?_append_left (by omega)]at hi
  obtain ⟨u,hu,hc⟩:=hx i cs hi j c hj;exact ⟨u,by rw[List.getElem?_append_left (by have:=(zS hu).1;omega)];exact hu,hc⟩
 ·rw[List.getElem?_append_right (by omega),gn]at hi
  obtain ⟨u,hu,hc⟩:=hy (i-len) cs hi j c hj;refine ⟨u,?_,hc⟩;have e1:i*b9=len*b9+(i-len)*b9:=by rw[<-Nat.add_mul];congr 1;omega
  rw[List.getElem?_append_right (by omega),<-hu];congr 1;omega
theorem Ny {s z n cap:Nat} {es:List (List AV)} {w':World} {g t:Nat} {arr:Array Value} {e:TypeId} (hz:0<z) (hn:n<=cap) (hg:w'.heap[g]? = some (.cells arr e (0,0))) (hc:cap*z<=arr.size) :
  CV B S ⟨j8 m s (some g),m.own.put s (((m.own s).q6 t none).new ⟨z,es⟩),w'⟩ (.row s (m.own.j5 s) z 0 n) (.slice (some ⟨g,0,none⟩) n cap):=by
 refine .ca (.one (.row s (m.own.j5 s) z 0 n _ cap ?_ hz hn (λ_=>rfl) λ b' l7=>⟨?_,.inr ⟨g,arr,e,?_,by simp,hg,by simpa using hc⟩⟩))
 ·show _<BC.j5 _ s
  rw[gF];simp
 ·change BC.get _ s _=some b' at l7
  rw[YP,if_pos ⟨rfl,rfl⟩]at l7;obtain rfl:(⟨z,es⟩:GE)=b':=by simpa using l7
  rfl
 ·simp [j8]
theorem Adm (hm:CY B S w0 m) (ob:Obj):Below B w0 (m.w.drew.alloc ob):=hm.below.drew.alloc (by simpa using hm.size) ob
theorem Aeh (hm:CY B S w0 m) (hs:D9 B S m ρ a.eval) {s b9 bytes:Nat} {x' y':BH} (h:CH P num o.op (.app s b9 bytes x' y')=true) {ys:List (List AV)} (hy:G0 m.own (ρ y')=some ys) (hz : ∀ e∈ys,e.length=b9) {s' t len:Nat} {b:GE} (hx:ρ x' = .row s' t b9 0 len) (o0:m.own.get s' t=some b)
  (qf:b.b9=b9) (hle:len<=b.es.length) (nf:(len+ys.length)*bytes<=IW) (Ig:len+ys.length<=9223372036854775807) :
  EG B S w0 P o a m (.dt (.row s' (m.own.j5 s') b9 0 (len+ys.length)) (m.own.put s' (((m.own s').q6 t none).new ⟨b9,b.es.take len++ys⟩))):=by
 obtain ⟨x,y,ty,e,i,z,tx,ex,l9,h1,h2,hu,hi,w7,qe,fv,jt,m7,Dg⟩:=yS h;have h0:0<b9:=Nat.pos_of_ne_zero m7;obtain ⟨ad,cap,cu,ht,_,kp,ha,hb⟩:=ZT (hx ▸ hs x x' h1);obtain ⟨Ao,kh,news,wi,et⟩:=mQ hm (hs y y' h2) hy hz h0;have rj:Src P i.size tx (.slice Ao ys.length kh) ys.length news m.w:=by rw[w7];exact et.src h0 hz Dg kh
 obtain ⟨zm,ef⟩:=hm.e7 s' t b o0;obtain ⟨_,ew⟩:=hb b o0;have wh:(b.es.take len).length=len:=by simp;omega
 have Al : ∀ q∈b.es.take len++ys,q.length=b9:=λ q hq=>by
  rcases List.mem_append.1 hq with hq|hq
  ·rw[<-qf];exact zm q (List.mem_of_mem_take hq)
  ·exact hz q hq
 intro K Q hK;by_cases ka:len+ys.length<=cap
 ·rcases ew with ⟨wg,jn⟩|⟨g,arr,e',hg,lf,hh,Jg⟩
  ·have yj:ys=[]:=List.eq_nil_of_length_eq_zero (by omega)
   subst yj;subst wg jn;have xu:news=[]:=List.eq_nil_of_length_eq_zero (by simpa using et.len);subst xu;have q7:=Mw ty tx e ex i hu Dg hi ad 0 (.slice Ao 0 kh) m.w (by simpa using rj) o.type;obtain ⟨k1,k2⟩:=pK hm s' t b ⟨b9,b.es.take 0++[]⟩ o0 none m.w hm.below (Nat.le_refl _) (λ_ _ _=>rfl) (by simp) (by simp) (by simp);refine WS (eB l9 (by rw[cu,wi];simpa using q7)) (hK _ ⟨j8 m s' none,m.own.put s' (((m.own s').q6 t none).new ⟨b9,b.es.take 0++[]⟩),m.w⟩ rfl k1 k2 (.ca (.one (.row s' (m.own.j5 s') b9 0 0 ad 0 ?_ h0 (Nat.le_refl _) (λ h=>by omega) λ b' l7=>⟨?_,.inl ⟨rfl,rfl⟩⟩))))
   ·show _<BC.j5 _ s'
    rw[gF];simp
   ·change BC.get _ s' _=some b' at l7
    rw[YP,if_pos ⟨rfl,rfl⟩]at l7;obtain rfl:(⟨b9,b.es.take 0++[]⟩:GE)=b':=by simpa using l7
    rfl
  ·have Ax:ad=some ⟨g,0,none⟩:=by simpa using lf
   rw[hg]at ef;obtain ⟨hB,tf,e2,zq,ag⟩:=ef;rw[hh]at zq;obtain ⟨rfl,rfl⟩:arr=tf/\e'=e2:=by simpa using zq
   have nc:news.length=ys.length*b9:=et.len;have hbound:len*b9+news.length<=arr.size:=by
    have:(len+ys.length)*b9<=(0+cap)*b9:=zR _ (by omega)
    rw[Nat.add_mul]at this;omega
   have q7:=Air ty tx e ex i hu Dg hi g 0 len cap (.slice Ao ys.length kh) ys.length news m.w rj ka arr e' hh (by rw[w7];omega) o.type;rw[w7,Nat.zero_add]at q7;generalize mu:(arr.toList.take (len*b9)++news++arr.toList.drop (len*b9+news.length)).toArray=v8 at q7;have eu : ∀ p,v8[p]? = if p<len*b9 then arr[p]? else if p<len*b9+news.length then news[p-len*b9]? else arr[p]? := λ p=>by rw[<-mu];exact AhP arr (len*b9) news hbound p
   have oz:v8.size=arr.size:=by rw[<-mu];simp;omega
   obtain ⟨k1,k2⟩:=pK hm s' t b ⟨b9,b.es.take len++ys⟩ o0 (some g) (m.w.setRow g v8) (tG hm hB v8) (by simp) (λ k _ uy=>setRow_other _ _ _ _ (λ e=>uy (e ▸ hg))) Al (by simp) (λ g' ko=>by
    obtain rfl:g=g':=by simpa using ko
    refine ⟨hB,.inr hg,v8,e',setRow_heap _ _ _ _ _ _ hh,λ i' cs o9 j c hj => ?_⟩;show ∃ u,v8[i'*b9+j]? = some u/\_;by_cases ix:i'<len
    ·rw[List.getElem?_append_left (by omega),List.getElem?_take,if_pos ix]at o9
     have gj:j<b9:=by rw[<-qf,<-zm cs (zM o9)];exact (zS hj).1
     obtain ⟨u,lq,fq⟩:=ag i' cs o9 j c hj;refine ⟨u,?_,fq⟩;have:(i'+1)*b9<=len*b9:=zR _ ix
     rw[Nat.succ_mul]at this;rw[eu,if_pos (by omega),<-lq,qf]
    ·rw[List.getElem?_append_right (by omega),wh]at o9
     obtain ⟨u,lq,fq⟩:=et.rel (i'-len) cs o9 j c hj;refine ⟨u,?_,fq⟩;have lu:=(zS lq).1;have e1:i'*b9=len*b9+(i'-len)*b9:=by rw[<-Nat.add_mul];congr 1;omega
     rw[eu,if_neg (by omega),if_pos (by omega),<-lq];congr 1;omega)
   exact WS (eB l9 (by rw[cu,wi,Ax];exact q7)) (hK _ ⟨j8 m s' (some g),m.own.put s' (((m.own s').q6 t none).new ⟨b9,b.es.take len++ys⟩),m.w.setRow g v8⟩ rfl k1 k2 (Ny h0 ka (setRow_heap _ _ _ _ _ _ hh) (by rw[oz];simpa using Jg)))
 ·have zp:cap<len+ys.length:=by omega
  obtain ⟨dp,Kd,hold,Kn⟩ : ∃ dp:List Value,dp.length=len*b9/\(Builtin.firstCells i.size len (.slice ad len cap)).run P m.w.drew = .ok dp.toArray m.w.drew/\(∀ i' cs,(b.es.take len)[i']? = some cs -> ∀ j c,cs[j]? = some c -> ∃ u,dp[i'*b9+j]? = some u/\CC B S m c u):=by
   rcases ew with ⟨wg,jn⟩|⟨g,arr,e',hg,lf,hh,Jg⟩
   ·subst wg
    refine ⟨[],by simp,?_,λ i' cs o9=>by simp at o9⟩;cases ad with
    | none=>exact run_firstCells_none m.w.drew i.size 0 0 cap
    | some Cg=>exact run_firstCells_some m.w.drew i.size 0 Cg 0 cap [] (by simp) (λ j v hv=>by simp at hv)
   ·have Ax:ad=some ⟨g,0,none⟩:=by simpa using lf
    rw[hg]at ef;obtain ⟨hB,tf,e2,zq,ag⟩:=ef;rw[hh]at zq;obtain ⟨rfl,rfl⟩:arr=tf/\e'=e2:=by simpa using zq
    have n8:len*b9<=arr.size:=by
     have:len*b9<=(0+cap)*b9:=zR _ (by omega)
     omega
    refine ⟨arr.toList.take (len*b9),by simp;omega,?_,λ i' cs o9 j c hj => ?_⟩
    ·rw[Ax]
     refine run_firstCells_some m.w.drew i.size len ⟨g,0,none⟩ len cap _ (by rw[w7];simp;omega) (λ j v hv => ?_);rw[List.getElem?_take]at hv;split at hv
     ·rw[NS,fZ (w:=m.w.drew) (show m.w.heap[g]? = _ from hh)]
      simpa using hv
     ·cases hv
    ·rw[List.getElem?_take]at o9
     split at o9
     ·rename_i ix
      have gj:j<b9:=by rw[<-qf,<-zm cs (zM o9)];exact (zS hj).1
      obtain ⟨u,lq,fq⟩:=ag i' cs o9 j c hj;refine ⟨u,?_,fq⟩;have:(i'+1)*b9<=len*b9:=zR _ ix
      rw[Nat.succ_mul]at this;rw[List.getElem?_take,if_pos (by omega),<-lq,qf];simp
     ·cases o9
  have q7:=run_append_grow_src (P:=P) m.w ty tx o.type e i z hu hi fv ad len cap dp hold (.slice Ao ys.length kh) ys.length news rj zp (by omega) (growslice_fits zp (by rw[qe];exact nf));have nc:news.length=ys.length*b9:=et.len;have ck:len+ys.length<=grownCap m.w (len+ys.length) cap e:=grownCap_ge _ _ _ _;generalize Gv:grownCap m.w (len+ys.length) cap e=gc at q7 ck;have jm:=Adm hm (.cells ((dp++news).toArray++Builtin.zeroCells z.cells (gc-(len+ys.length))) e);have lk:(m.w.drew.alloc (.cells ((dp++news).toArray++Builtin.zeroCells z.cells (gc-(len+ys.length))) e)).heap[m.w.heap.size]? = some (.cells ((dp++news).toArray++Builtin.zeroCells z.cells (gc-(len+ys.length))) e (0,0)):=heap_alloc_new m.w.drew _;obtain ⟨k1,k2⟩:=pK hm s' t b ⟨b9,b.es.take len++ys⟩ o0 (some m.w.heap.size) _ jm (by simp) (λ k hk _=>Below.heap_alloc m.w.drew _ k hk) Al (by simp) (λ g' ko=>by
   obtain rfl:m.w.heap.size=g':=by simpa using ko
   refine ⟨hm.size,.inl (Nat.le_refl _),_,e,lk,λ i' cs o9 j c hj => ?_⟩;obtain ⟨u,lq,fq⟩:=Aim wh Kd (λ q hq=>by rw[<-qf];exact zm q (List.mem_of_mem_take hq)) Kn et.rel i' cs o9 j c hj;refine ⟨u,?_,fq⟩;rw[Agu _ _ _ _ _ (by have:=(zS lq).1;simpa using this)];exact lq)
  refine WS (eB l9 (by rw[cu,wi];exact q7)) (hK _ ⟨j8 m s' (some m.w.heap.size),m.own.put s' (((m.own s').q6 t none).new ⟨b9,b.es.take len++ys⟩),_⟩ rfl k1 k2 (Ny h0 ck lk ?_));have Ge:(Builtin.zeroCells z.cells (gc-(len+ys.length))).size=(gc-(len+ys.length))*b9:=by simp [Builtin.zeroCells,jt]
  rw[Array.size_append,Ge];simp only[List.size_toArray,List.length_append,Kd,nc];rw[<-Nat.add_mul,<-Nat.add_mul];exact zR _ (by omega)
theorem Aeg (hm:CY B S w0 m) (hs:D9 B S m ρ a.eval) {s b9 bytes:Nat} {x' y':BH} (h:CH P num o.op (.app s b9 bytes x' y')=true) {ys:List (List AV)} (hy:G0 m.own (ρ y')=some ys) (hz : ∀ e∈ys,e.length=b9) (hx:ρ x' = .nil)
  (nf:ys.length*bytes<=IW) (Ig:ys.length<=9223372036854775807) :
  EG B S w0 P o a m (.dt (.row s (m.own.j5 s) b9 0 ys.length) (m.own.put s ((m.own s).new ⟨b9,ys⟩))):=by
 obtain ⟨x,y,ty,e,i,z,tx,ex,l9,h1,h2,hu,hi,w7,qe,fv,jt,m7,Dg⟩:=yS h;have h0:0<b9:=Nat.pos_of_ne_zero m7;have cu:=ZS (hx ▸ hs x x' h1);obtain ⟨Ao,kh,news,wi,et⟩:=mQ hm (hs y y' h2) hy hz h0;have rj:Src P i.size tx (.slice Ao ys.length kh) ys.length news m.w:=by rw[w7];exact et.src h0 hz Dg kh
 intro K Q hK;by_cases yj:ys=[]
 ·subst yj
  have xu:news=[]:=List.eq_nil_of_length_eq_zero (by simpa using et.len);subst xu;have q7:=Mw ty tx e ex i hu Dg hi none 0 (.slice Ao 0 kh) m.w (by simpa using rj) o.type;obtain ⟨k1,k2⟩:=Pk hm s b9;refine WS (eB l9 (by rw[cu,wi];simpa using q7)) (hK _ ⟨j8 m s none,m.own.put s ((m.own s).new ⟨b9,[]⟩),m.w⟩ rfl k1 k2 (.ca (.one (.row s (m.own.j5 s) b9 0 0 none 0 ?_ h0 (Nat.le_refl _) (λ h=>by omega) λ b' l7=>⟨?_,.inl ⟨rfl,rfl⟩⟩))))
  ·show _<BC.j5 _ s
   rw[Q0];simp
  ·change BC.get _ s _=some b' at l7
   rw[JU,if_pos ⟨rfl,rfl⟩]at l7;obtain rfl:(⟨b9,[]⟩:GE)=b':=by simpa using l7
   rfl
 ·have Kf:0<ys.length:=List.length_pos_iff.2 yj
  have q7:=run_append_grow_src (P:=P) m.w ty tx o.type e i z hu hi fv none 0 0 [] (run_firstCells_none m.w.drew i.size 0 0 0) (.slice Ao ys.length kh) ys.length news rj (by omega) (by omega) (growslice_fits (by omega) (by rw[qe,Nat.zero_add];exact nf));simp only[Nat.zero_add,List.nil_append]at q7;have nc:news.length=ys.length*b9:=et.len;have ck:ys.length<=grownCap m.w ys.length 0 e:=grownCap_ge _ _ _ _;generalize Gv:grownCap m.w ys.length 0 e=gc at q7 ck;have hd:Below m.w.heap.size m.w m.w.drew:=(Below.refl _ _).drew;obtain ⟨lg,Et⟩:=grow hm hd;obtain ⟨k1,k2⟩:=kX lg s ⟨b9,ys⟩ (news.toArray++Builtin.zeroCells z.cells (gc-ys.length)) e hz (λ i' cs o9 j c hj=>by
   obtain ⟨u,lq,fq⟩:=et.rel i' cs o9 j c hj;refine ⟨u,?_,Et.cc fq⟩;have lu:=(zS lq).1;show (news.toArray++Builtin.zeroCells z.cells (gc-ys.length))[i'*b9+j]? = some u;rw[Array.getElem?_append_left (by simpa using lu)];simpa using lq)
  have Ge:(Builtin.zeroCells z.cells (gc-ys.length)).size=(gc-ys.length)*b9:=by simp [Builtin.zeroCells,jt]
  refine WS (eB l9 (by rw[cu,wi];exact q7)) (hK _ ⟨j8 ⟨m.ν,m.own,m.w.drew⟩ s (some m.w.drew.heap.size),m.own.put s ((m.own s).new ⟨b9,ys⟩),_⟩ rfl k1 (Et.trans k2) (Od (m:=⟨m.ν,m.own,m.w.drew⟩) h0 ck (heap_alloc_new m.w.drew _) ?_));rw[Array.size_append,Ge];simp only[List.size_toArray,nc];rw[<-Nat.add_mul];exact zR _ (by omega)
end
end Go.e6

namespace Go.e6
open Go.RowKit
section
variable {B:Nat} {S:Nat->Prop} {w0:World} {m:M}
variable {P:Program} {num:Nat->Nat} {o:Oper} {a:Act} {ρ:BH->AV}
structure LD (P:Program) (num:Nat->Nat) (C:Cl):Prop where
 tn : ∀ (f:Nat) (vs:List AV) (r:AV),C.pure f vs=some r -> ∀ (us:Array Value) (w:World),(callFunc (num f) us).run P w = .ok (.enter (num f) us) w
 og : ∀ (f:Nat) (vs:List AV) (own:BC) (r:AV × BC),C.iv f vs own=some r -> ∀ (us:Array Value) (w:World),(callFunc (num f) us).run P w = .ok (.enter (num f) us) w
 pure : ∀ (f:Nat) (vs:List AV) (r:AV),C.pure f vs=some r -> ∀ (S:Nat->Prop) (w:World) (us:List Value),vs.length=us.length->(∀ (j:Nat) (c:AV) (v:Value),vs[j]? = some c->us[j]? = some v->CA w.heap.size S ⟨λ_ _=>none,BC.emp,w⟩ c v) ->
  Calls P (num f) us.toArray w λ e w' => ∃ u,e = .returned u/\Below w.heap.size w w'/\CV w.heap.size S ⟨λ_ _=>none,BC.emp,w'⟩ r u/\B4 r
 iv : ∀ (f:Nat) (vs:List AV) (own:BC) (r:AV) (n0:BC),C.iv f vs own=some (r,n0) -> ∀ (B:Nat) (S:Nat->Prop) (w0:World) (m:M) (us:List Value),m.own=own->CY B S w0 m->vs.length=us.length->(∀ (j:Nat) (c:AV) (v:Value),vs[j]? = some c->us[j]? = some v->CV B S m c v) ->
  Calls P (num f) us.toArray m.w λ e w' => ∃ u m',e = .returned u/\m'.w=w'/\m'.own=n0/\CY B S w0 m'/\FP B S m m'/\CV B S m' r u
 num:C.num=num
end
end Go.e6
