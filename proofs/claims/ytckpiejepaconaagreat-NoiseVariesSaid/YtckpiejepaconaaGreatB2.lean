/-
  What the checker has seen, operation by operation.
-/
import Derived.Test.YtckpiejepaconaaGreatB1
import Derived.Laws.StructEq
import Derived.ChangeKeysEq
import Derived.Laws.Slices
import Derived.Orders
import Derived.IntWalk
set_option linter.unusedSimpArgs false
set_option linter.unusedVariables false
set_option linter.unnecessarySimpa false
open Array renaming getElem?_eq_some_iff->sa,getD->zb,replicate->Nb,getElem?_toList->Lb,length_toList->Fb,getElem?_append_left->yc,foldl_toList->wc,getElem?_eq_getElem->tc,toList_map->nc,size_append->Jc
open Bool renaming and_eq_true->ya,noConfusion->va,false_eq_true->Ma,or_eq_true->qb,not_eq_true'->Hc,true_eq_false->ye
open Int renaming natCast_mul->me,ofNat_le->de
open List renaming getElem?_map->ja,eq_nil_of_length_eq_zero->ea,getElem?_take->da,getElem?_drop->Ra,getElem?_append_left->Qa,getElem?_append_right->Ka,mem_append->Ha,mapM_cons->Da,length_take->nb,all_eq_true->fb,drop_eq_getElem_cons->Qb,map_cons->Pb,getElem_mem->Kb,mem_of_mem_take->Ib,mem_zipIdx_iff_getElem?->Hb,mem_flatMap->Rc,length_cons->Pc,length_map->Oc,getElem_of_mem->Nc,getElem?_range->Mc,mem_cons->Lc,range->Kc,append_assoc->Ic,length_drop->zd,foldl_cons->yd,cons.injEq->xd,drop_zero->vd,getD->Od,drop_of_length_le->Md,getElem?_toArray->Jd,mem_of_mem_drop->Hd,getElem?_append->Gd,map_congr_left->Cd,length_append->ze,size_toArray->ve,countP_cons->te
open Nat renaming le_refl->Na,le_max_right->Ia,le_max_left->Ga,add_mul->Ea,eq_zero_or_pos->ub,zero_add->eb,succ_mul->Rb,pos_of_ne_zero->Mb,le_trans->Db,mul_comm->Ec,add_zero->Dc,add_mul_mod_self_right->dd,add_assoc->cd,lt_or_ge->Ld,add_comm->Kd,div_lt_of_lt_mul->Dd,lt_or_gt_of_ne->xe,mod_eq_of_lt->re,div_add_mod->oe,mod_lt->Re
open Option renaming some.injEq->za,map_eq_some_iff->ua,some.inj->oa,map_some->Pa,isSome_iff_exists->Fa,bind_eq_bind->Ba,pure_def->vb,map_none->Jb,getD_some->pc,bind_some->Ad
namespace Go.c6
section
variable {P:Program} {num:Nat->Nat} {op:Op}
theorem Akg {y:AU} (h:BI P num op (.m5 y)=true) : ∃ x,(op = .move x\/op = .assign x)/\B5 x y=true:=by
 cases op with
 | move x=>exact ⟨x,.inl rfl,h⟩
 | assign x=>exact ⟨x,.inr rfl,h⟩
 | _=>exact va h
theorem Akm {s z:Nat} (h:BI P num op (.v5 s z)=true):(op = .move (.const (.slice none 0 0))\/op = .assign (.const (.slice none 0 0)))/\z≠0:=by
 simp only[BI,ya,bne_iff_ne]at h;refine ⟨?_,h.1⟩;have h2:=h.2;split at h2<;>simp_all
theorem Akh {c' a' b':AU} (h:BI P num op (.pick c' a' b')=true) : ∃ c a b,op = .pick c a b/\B5 c c'=true/\B5 a a'=true/\B5 b b'=true:=by
 cases op with
 | pick c a b=>simp only[BI,ya]at h;exact ⟨c,a,b,rfl,h.1.1,h.1.2,h.2⟩
 | _=>exact va h
theorem AjZ {f:BinOp} {x' y':AU} (h:BI P num op (.bin f x' y')=true) : ∃ t x y u,op = .binOp f t x y u/\B5 x x'=true/\B5 y y'=true:=by
 cases op with
 | binOp f' t x y u =>
  simp only[BI,ya,beq_iff_eq]at h;exact ⟨t,x,y,u,by rw[h.1.1],h.1.2,h.2⟩
 | _=>exact va h
theorem AjY {ne:Bool} {x' y':AU} (h:BI P num op (.beq ne x' y')=true) : ∃ t x y u,op = .binOp (if ne then .neq else .eql) t x y u/\P.underlying t=some .bool/\B5 x x'=true/\B5 y y'=true:=by
 cases op with
 | binOp f' t x y u =>
  simp only[BI,ya]at h;obtain ⟨⟨⟨h1,h2⟩,h3⟩,h4⟩:=h;refine ⟨t,x,y,u,?_,?_,h3,h4⟩
  ·cases ne<;>simp_all
  ·split at h2<;>simp_all
 | _=>exact va h
theorem Akl {f:UnOp} {x':AU} (h:BI P num op (.un f x')=true) : ∃ t x,op = .unOp f t x/\B5 x x'=true:=by
 cases op with
 | unOp f' t x =>
  simp only[BI,ya,beq_iff_eq]at h;exact ⟨t,x,by rw[h.1],h.2⟩
 | _=>exact va h
theorem Aj8 {k:IntKind} {x':AU} (h:BI P num op (.conv k x')=true) : ∃ s d x ds,op = .convert s d x/\P.underlying s=some ds/\P.underlying d=some (.int k)/\B5 x x'=true:=by
 cases op with
 | convert s d x =>
  simp only[BI,ya]at h;obtain ⟨⟨h1,h2⟩,h3⟩:=h;obtain ⟨ds,Dm⟩:=Fa.1 h1;refine ⟨s,d,x,ds,rfl,Dm,?_,h3⟩;split at h2<;>simp_all
 | _=>exact va h
theorem Aj0 {s:Nat} {x':AU} (h:BI P num op (.box s x')=true) : ∃ t x,op = .box t x/\B5 x x'=true:=by
 cases op with
 | box t x=>exact ⟨t,x,rfl,h⟩
 | _=>exact va h
theorem AjW {s:Nat} {z:u_} (h:BI P num op (.alloc s z)=true) : ∃ t,op = .alloc t/\XT P t z=true:=by
 cases op with
 | alloc t=>exact ⟨t,rfl,h⟩
 | _=>exact va h
theorem Aj2 {z:u_} {ff:List (Nat × Nat × AU)} (h:BI P num op (.build z ff)=true) : ∃ t ps,op = .build t ps/\XT P t z=true/\kR P t ps.toList ff=true:=by
 cases op with
 | build t ps=>simp only[BI,ya]at h;exact ⟨t,ps,rfl,h.1,h.2⟩
 | _=>exact va h
theorem RF {t:TypeId} {f:TypeId->Bool} (h:LF P t f=true) : ∃ e,P.underlying t=some (.slice e)/\f e=true:=by
 unfold LF at h;split at h
 ·rename_i e he;exact ⟨e,he,h⟩
 ·cases h
theorem NQ {t:TypeId} {n:Nat} (h:J5 P t n=true) : ∃ i,P.info? t=some i/\i.size=n:=by
 unfold J5 at h;split at h
 ·rename_i i hi;exact ⟨i,hi,by simpa using h⟩
 ·cases h
theorem kS {t:TypeId} {n:Nat} (h:ZZ P t n=true) : ∃ i,P.info? t=some i/\i.bytes=n:=by
 unfold ZZ at h;split at h
 ·rename_i i hi;exact ⟨i,hi,by simpa using h⟩
 ·cases h
theorem rM {t:TypeId} {l:u_} (h:XT P t l=true) : ∃ i z,P.info? t=some i/\i.zero=some z/\QM z.cells.toList l=true:=by
 unfold XT at h;split at h
 ·rename_i i hi
  split at h
  ·rename_i z hz;exact ⟨i,z,hi,hz,h⟩
  ·cases h
 ·cases h
theorem kG {t:TypeId} {b:Bool} (h:(V1 P t == some b)=true) : ∀ w,(isAgg t).run P w = .ok b w:=by
 intro w;have h':V1 P t=some b:=by simpa using h
 unfold V1 at h';unfold isAgg;cases hu:P.underlying t with
 | none=>rw[hu]at h';cases h'
 | some d =>
  rw[hu]at h';rw[Sem.run_bind,run_underlying hu];cases d<;>simp_all<;>rfl
theorem rN {e:TypeId} {n:Nat} (h:(match P.info? e with|some i=>(match i.zero with|some z=>z.cells.size == n|none=>false)|none=>false)=true) : ∃ i z,P.info? e=some i/\i.zero=some z/\z.cells.size=n:=by
 split at h
 ·rename_i i hi
  split at h
  ·rename_i z hz;exact ⟨i,z,hi,hz,by simpa using h⟩
  ·cases h
 ·cases h
theorem Aj1 {s a8:Nat} {ff:List AU} (h:BI P num op (.a7 s a8 ff)=true) : ∃ t n ps e i,op = .buildSlice t n ps/\P.underlying t=some (.slice e)/\P.info? e=some i/\i.size=a8/\a8≠0/\n=ff.length/\n*a8<=16777216/\WF 0 ps.toList ff=true/\(n=0 \/ ∃ z,i.zero=some z/\z.cells.size=a8):=by
 cases op with
 | buildSlice t n ps =>
  simp only[BI,ya,decide_eq_true_eq,bne_iff_ne,beq_iff_eq,qb]at h;obtain ⟨⟨⟨⟨⟨h1,h2⟩,h3⟩,h4⟩,h5⟩,h6⟩:=h;obtain ⟨e,he,h1⟩:=RF h1;obtain ⟨i,hi,hs⟩:=NQ h1;refine ⟨t,n,ps,e,i,rfl,he,hi,hs,h2,h3,h4,h5,h6.imp id λ h6 => ?_⟩;obtain ⟨e',iq,h6⟩:=RF h6;rw[he]at iq;obtain rfl:e=e':=by simpa using iq
  obtain ⟨i',z,o5,hz,uj⟩:=rN h6;rw[hi]at o5;obtain rfl:i=i':=by simpa using o5
  exact ⟨z,hz,uj⟩
 | _=>exact va h
theorem Ug {x':AU} {off:Nat} (h:BI P num op (.j4 x' off)=true) : ∃ t x f fs fd i,op = .fieldAddr t x f/\B5 x x'=true/\P.underlying t=some (.struct fs)/\fs[f]? = some fd/\fd.offset=off/\P.info? fd.type=some i/\i.size≠0:=by
 cases op with
 | fieldAddr t x f =>
  simp only[BI,ya]at h;obtain ⟨h1,h2⟩:=h;split at h2
  ·rename_i fs iu
   split at h2
   ·rename_i fd Ko
    simp only[ya,beq_iff_eq]at h2;obtain ⟨h3,h4⟩:=h2;split at h4
    ·rename_i i hi
     exact ⟨t,x,f,fs,fd,i,rfl,h1,iu,Ko,h3,hi,by simpa using h4⟩
    ·cases h4
   ·cases h2
  ·cases h2
 | _=>exact va h
theorem Aka {x':AU} {off n:Nat} {agg:Bool} (h:BI P num op (.pn x' off n agg)=true) : ∃ t x f fs fd i,op = .field t x f/\B5 x x'=true/\P.underlying t=some (.struct fs)/\fs[f]? = some fd/\fd.offset=off/\P.info? fd.type=some i/\i.size=n/\(∀ w,(isAgg fd.type).run P w = .ok agg w)/\n≠0:=by
 cases op with
 | field t x f =>
  simp only[BI,ya]at h;obtain ⟨⟨h1,h2⟩,h3⟩:=h;unfold yW at h2;unfold yX at h3;split at h2
  ·rename_i fs iu
   split at h2
   ·rename_i fd Ko
    simp only[ya,beq_iff_eq,bne_iff_ne]at h2;obtain ⟨⟨h4,h5⟩,h6⟩:=h2;obtain ⟨i,hi,hs⟩:=NQ h5;rw[iu]at h3;simp only[Ko]at h3;exact ⟨t,x,f,fs,fd,i,rfl,h1,iu,Ko,h4,hi,hs,kG h3,h6⟩
   ·cases h2
  ·cases h2
 | _=>exact va h
theorem fW {arr:Option Nat} {a8:Nat} {x' i':AU} (h:BI P num op (.u6 arr a8 x' i')=true) : ∃ t x i e inf,op = .indexAddr t x i/\B5 x x'=true/\B5 i i'=true/\P.info? e=some inf/\inf.size=a8 /\
  ((∃ len,arr=some len/\P.underlying t=some (.array len e)/\1<len)\/(arr=none/\P.underlying t=some (.slice e)/\a8≠0)):=by
 cases op with
 | indexAddr t x i =>
  simp only[BI,ya]at h;obtain ⟨⟨h1,h2⟩,h3⟩:=h;split at h3
  ·rename_i len e ur hu
   simp only[ya,beq_iff_eq,decide_eq_true_eq]at h3;obtain ⟨⟨h4,h5⟩,h6⟩:=h3;obtain ⟨inf,hi,hs⟩:=NQ h5;exact ⟨t,x,i,e,inf,rfl,h1,h2,hi,hs,.inl ⟨len,by rw[h4],hu,h6⟩⟩
  ·rename_i e hu
   simp only[ya,bne_iff_ne]at h3;obtain ⟨inf,hi,hs⟩:=NQ h3.1;exact ⟨t,x,i,e,inf,rfl,h1,h2,hi,hs,.inr ⟨rfl,hu,h3.2⟩⟩
  ·cases h3
 | _=>exact va h
theorem Uh {agg:Bool} {n:Nat} {x':AU} (h:BI P num op (.ld agg n x')=true) : ∃ t x,op = .load t x/\B5 x x'=true/\(∀ w,(isAgg t).run P w = .ok agg w)/\(if agg then ∃ i,P.info? t=some i/\i.size=n else n=1):=by
 cases op with
 | load t x =>
  simp only[BI,ya]at h;obtain ⟨⟨h1,h2⟩,h3⟩:=h;refine ⟨t,x,rfl,h1,kG h2,?_⟩;cases agg
  ·simpa using h3
  ·exact NQ (by simpa using h3)
 | _=>exact va h
theorem Akj {n:Nat} {x' v':AU} (h:BI P num op (.st n x' v')=true) : ∃ t x v i,op = .store t x v/\B5 x x'=true/\B5 v v'=true/\P.info? t=some i/\i.size=n:=by
 cases op with
 | store t x v =>
  simp only[BI,ya]at h;obtain ⟨⟨h1,h2⟩,h3⟩:=h;obtain ⟨i,hi,hs⟩:=NQ h3;exact ⟨t,x,v,i,rfl,h1,h2,hi,hs⟩
 | _=>exact va h
theorem Akd {s a8 bytes:Nat} {zero:u_} {l' c':AU} (h:BI P num op (.mk s a8 bytes zero l' c')=true) : ∃ t l c e i z,op = .makeSlice t l c/\B5 l l'=true/\B5 c c'=true/\P.underlying t=some (.slice e)/\P.info? e=some i/\i.size=a8/\i.bytes=bytes/\i.zero=some z/\QM z.cells.toList zero=true/\a8≠0:=by
 cases op with
 | makeSlice t l c =>
  simp only[BI,ya,bne_iff_ne]at h;obtain ⟨⟨⟨h1,h2⟩,h3⟩,h4⟩:=h;obtain ⟨e,he,h3⟩:=RF h3;simp only[ya]at h3;obtain ⟨⟨h5,h6⟩,h7⟩:=h3;obtain ⟨i,hi,hs⟩:=NQ h5;obtain ⟨i2,ue,ox⟩:=kS h6;obtain ⟨i3,z,Al,hz,gu⟩:=rM h7;rw[hi]at ue Al;obtain rfl:i=i2:=by simpa using ue
  obtain rfl:i=i3:=by simpa using Al
  exact ⟨t,l,c,e,i,z,rfl,h1,h2,he,hi,hs,ox,hz,gu,h4⟩
 | _=>exact va h
theorem oI {a8:Nat} {x':AU} {qe o5:Option AU} (h:BI P num op (.di a8 x' qe o5)=true) : ∃ t x lo hi e i,op = .slice t x lo hi none/\B5 x x'=true/\OM lo qe=true/\OM hi o5=true/\P.underlying t=some (.slice e)/\P.info? e=some i/\i.size=a8/\a8≠0:=by
 cases op with
 | slice t x lo hi mx =>
  cases mx with
  | some _=>exact va h
  | none =>
   simp only[BI,ya,bne_iff_ne]at h;obtain ⟨⟨⟨⟨h1,h2⟩,h3⟩,h4⟩,h5⟩:=h;obtain ⟨e,he,h4⟩:=RF h4;obtain ⟨i,o5,hs⟩:=NQ h4;exact ⟨t,x,lo,hi,e,i,rfl,h1,h2,h3,he,o5,hs,h5⟩
 | _=>exact va h
theorem Aj9 {x':AU} {i:Nat} (h:BI P num op (.ext x' i)=true) : ∃ x,op = .extract x i/\B5 x x'=true:=by
 cases op with
 | extract x j =>
  simp only[BI,ya,beq_iff_eq]at h;exact ⟨x,by rw[h.2],h.1⟩
 | _=>exact va h
theorem jI {α:Type} {xs:Array α} {x y:α} (h:xs.toList=[x,y]):xs = #[x,y]:=by cases xs;simp_all
theorem jH {α:Type} {xs:Array α} {x:α} (h:xs.toList=[x]):xs = #[x]:=by cases xs;simp_all
theorem Akc {x':AU} (h:BI P num op (.len x')=true) : ∃ x t e,op = .call ⟨.builtin .len,#[x],#[t]⟩/\B5 x x'=true/\P.underlying t=some (.slice e):=by
 cases op with
 | call c =>
  obtain ⟨cl,xs,ts⟩:=c;cases cl with
  | builtin b =>
   cases b<;>first|exact va h|skip
   simp only[BI]at h;split at h
   ·rename_i x t hx ht
    simp only[ya]at h;obtain ⟨e,he,_⟩:=RF h.2;exact ⟨x,t,e,by rw[jH hx,jH ht],h.1,he⟩
   ·cases h
  | value f=>cases f<;>exact va h
  | invoke=>exact va h
 | _=>exact va h
theorem Ui {mx:Bool} {n0:List AU} (h:BI P num op (.mm mx n0)=true) : ∃ xs ts,op = .call ⟨.builtin (if mx then .max else .min),xs,ts⟩/\EV xs.toList n0=true:=by
 cases op with
 | call c =>
  obtain ⟨cl,xs,ts⟩:=c;cases cl with
  | builtin b =>
   cases b<;>first|exact va h|skip
   all_goals
    simp only[BI,ya]at h;refine ⟨xs,ts,?_,h.2⟩;cases mx<;>simp_all
  | value f=>cases f<;>exact va h
  | invoke=>exact va h
 | _=>exact va h
theorem Uf {s a8 bytes:Nat} {x' y':AU} (h:BI P num op (.app s a8 bytes x' y')=true) : ∃ x y t e i z tx ex,op = .call ⟨.builtin .append,#[x,y],#[t,tx]⟩/\B5 x x'=true/\B5 y y'=true/\P.underlying t=some (.slice e)/\P.info? e=some i/\i.size=a8/\i.bytes=bytes/\i.zero=some z/\z.cells.size=a8/\a8≠0/\P.underlying tx=some (.slice ex):=by
 cases op with
 | call c =>
  obtain ⟨cl,xs,ts⟩:=c;cases cl with
  | builtin b =>
   cases b<;>first|exact va h|skip
   simp only[BI]at h;split at h
   ·rename_i x y t u hx ht
    simp only[ya,beq_iff_eq,bne_iff_ne]at h;obtain ⟨⟨⟨⟨h1,h2⟩,h3⟩,h4⟩,h5⟩:=h;obtain ⟨e,he,h3⟩:=RF h3;simp only[ya]at h3;obtain ⟨⟨h6,h7⟩,h8⟩:=h3;obtain ⟨i,hi,hs⟩:=NQ h6;obtain ⟨i2,ue,ox⟩:=kS h7;obtain ⟨i3,z,Al,hz,gu⟩:=rN h8;rw[hi]at ue Al;obtain rfl:i=i2:=by simpa using ue
    obtain rfl:i=i3:=by simpa using Al
    obtain ⟨ex,hex,_⟩:=RF h5;exact ⟨x,y,t,e,i,z,u,ex,by rw[jI hx,jI ht],h1,h2,he,hi,hs,ox,hz,gu,h4,hex⟩
   ·cases h
  | value f=>cases f<;>exact va h
  | invoke=>exact va h
 | _=>exact va h
theorem oG {f:Nat} {n0:List AU} (h:BI P num op (.call f n0)=true) : ∃ xs ts,op = .call ⟨.value (.func (num f)),xs,ts⟩/\EV xs.toList n0=true:=by
 cases op with
 | call c =>
  obtain ⟨cl,xs,ts⟩:=c;cases cl with
  | builtin b=>cases b<;>exact va h
  | value g =>
   cases g with
   | func g =>
    simp only[BI,ya,beq_iff_eq]at h;exact ⟨xs,ts,by rw[h.1],h.2⟩
   | _=>exact va h
  | invoke=>exact va h
 | _=>exact va h
theorem Aj3 {f:Nat} {n0:List AU} (h:BI P num op (.c7 f n0)=true) : ∃ xs ts,op = .call ⟨.value (.func (num f)),xs,ts⟩/\EV xs.toList n0=true:=by
 cases op with
 | call c =>
  obtain ⟨cl,xs,ts⟩:=c;cases cl with
  | builtin b=>cases b<;>exact va h
  | value g =>
   cases g with
   | func g =>
    simp only[BI,ya,beq_iff_eq]at h;exact ⟨xs,ts,by rw[h.1],h.2⟩
   | _=>exact va h
  | invoke=>exact va h
 | _=>exact va h
theorem Aj4 {f:Nat} {n0:List AU} (h:BI P num op (.j6 f n0)=true):BI P num op (.call f n0)=true:=by
 cases op<;>exact h
theorem AjV {ne:Bool} {n:Nat} {x' y':AU} (h:BI P num op (.tk ne n x' y')=true) : ∃ t x y u,op = .binOp (if ne then .neq else .eql) t x y u/\nI P t n=true/\B5 x x'=true/\B5 y y'=true:=by
 cases op with
 | binOp f' t x y u =>
  simp only[BI,ya]at h;obtain ⟨⟨⟨h1,h2⟩,h3⟩,h4⟩:=h;refine ⟨t,x,y,u,?_,h2,h3,h4⟩;cases ne<;>simp_all
 | _=>exact va h
theorem Aj7 {x':AU} (h:BI P num op (.fx x')=true) : ∃ x t e,op = .call ⟨.builtin .cap,#[x],#[t]⟩/\B5 x x'=true/\P.underlying t=some (.slice e):=by
 cases op with
 | call c =>
  obtain ⟨cl,xs,ts⟩:=c;cases cl with
  | builtin b =>
   cases b<;>first|exact va h|skip
   simp only[BI]at h;split at h
   ·rename_i x t hx ht
    simp only[ya]at h;obtain ⟨e,he,_⟩:=RF h.2;exact ⟨x,t,e,by rw[jH hx,jH ht],h.1,he⟩
   ·cases h
  | value f=>cases f<;>exact va h
  | invoke=>exact va h
 | _=>exact va h
theorem AjX {s a8 bytes:Nat} {x' y':AU} (h:BI P num op (.pg s a8 bytes x' y')=true) : ∃ x y t e i z tx k,op = .call ⟨.builtin .append,#[x,y],#[t,tx]⟩/\B5 x x'=true/\B5 y y'=true/\P.underlying t=some (.slice e)/\P.info? e=some i/\i.size=a8/\i.bytes=bytes/\i.zero=some z/\z.cells.size=a8/\a8≠0/\P.underlying tx=some (.int k):=by
 cases op with
 | call c =>
  obtain ⟨cl,xs,ts⟩:=c;cases cl with
  | builtin b =>
   cases b<;>first|exact va h|skip
   simp only[BI]at h;split at h
   ·rename_i x y t u hx ht
    simp only[ya,bne_iff_ne]at h;obtain ⟨⟨⟨⟨h1,h2⟩,h3⟩,h4⟩,h5⟩:=h;obtain ⟨e,he,h3⟩:=RF h3;simp only[ya]at h3;obtain ⟨⟨h6,h7⟩,h8⟩:=h3;obtain ⟨i,hi,hs⟩:=NQ h6;obtain ⟨i2,ue,ox⟩:=kS h7;obtain ⟨i3,z,Al,hz,gu⟩:=rN h8;rw[hi]at ue Al;obtain rfl:i=i2:=by simpa using ue
    obtain rfl:i=i3:=by simpa using Al
    split at h5
    ·rename_i k hk
     exact ⟨x,y,t,e,i,z,u,k,by rw[jI hx,jI ht],h1,h2,he,hi,hs,ox,hz,gu,h4,hk⟩
    ·cases h5
   ·cases h
  | value f=>cases f<;>exact va h
  | invoke=>exact va h
 | _=>exact va h
theorem Aj6 {s f:Nat} {n0:List AU} (h:BI P num op (.cg s f n0)=true):BI P num op (.c7 f n0)=true:=by
 cases op<;>exact h
theorem Aj5 {s f:Nat} {n0:List AU} (h:BI P num op (.n7 s f n0)=true):BI P num op (.call f n0)=true:=by
 cases op<;>exact h
theorem Akk {s n:Nat} {x' v':AU} (h:BI P num op (.pe s n x' v')=true):BI P num op (.st n x' v')=true:=by
 cases op<;>exact h
theorem Akb {ne:Bool} {x':AU} (h:BI P num op (.uq ne x')=true) : ∃ t x u e,op = .binOp (if ne then .neq else .eql) t x (.const (.slice none 0 0)) u/\P.underlying t=some (.slice e)/\B5 x x'=true:=by
 cases op with
 | binOp f' t x y u =>
  simp only[BI]at h;split at h
  ·rename_i heq
   simp only[Op.binOp.injEq]at heq;obtain ⟨rfl,rfl,rfl,rfl,rfl⟩:=heq;simp only[ya]at h;obtain ⟨⟨h1,h2⟩,h3⟩:=h;unfold LF at h2;split at h2
   ·rename_i e he
    refine ⟨t,x,u,e,?_,he,h3⟩;cases ne
    ·simp only[Ma,if_false,beq_iff_eq]at h1;rw[h1];rfl
    ·simp only[if_true,beq_iff_eq]at h1;rw[h1];rfl
   ·cases h2
  ·cases h
 | _=>exact va h
theorem Aki {tb:N'} {i':AU} (h:BI P num op (.gx tb i')=true) : ∃ t s i,op = .index t (.const (.string s)) i/\P.underlying t=some .string/\s.data.toList.map (λ b=>b.toNat)=tb/\B5 i i'=true:=by
 cases op with
 | index t x i =>
  simp only[BI]at h;split at h
  ·rename_i heq
   simp only[Op.index.injEq]at heq;obtain ⟨rfl,rfl,rfl⟩:=heq;simp only[ya,beq_iff_eq]at h;obtain ⟨⟨h1,h2⟩,h3⟩:=h;exact ⟨_,_,_,rfl,by split at h1<;>simp_all,h2,h3⟩
  ·cases h
 | _=>exact va h
theorem Akf {p:Bool} {f:Nat} {n0:List AU} (h:BI P num op (.ri p f n0)=true) : ∃ first xs,op = .makeFunc (.func (num f)) first xs/\first = #[]/\EV xs.toList n0=true:=by
 cases op with
 | makeFunc g first xs =>
  cases g with
  | func g =>
   simp only[BI,ya,beq_iff_eq]at h;obtain ⟨⟨rfl,h2⟩,h3⟩:=h;refine ⟨first,xs,rfl,?_,h3⟩;obtain ⟨l⟩:=first
   simp at h2;rw[h2]
  | _=>exact va h
 | _=>exact va h
theorem Ake {f:Nat} {x':AU} (h:BI P num op (.ti f x')=true) : ∃ x,op = .makeFunc (.func (num f)) #[x] #[]/\B5 x x'=true:=by
 cases op with
 | makeFunc g first xs =>
  cases g with
  | func g =>
   obtain ⟨l⟩:=first
   obtain ⟨l2⟩:=xs;simp only[BI,ya,beq_iff_eq]at h;obtain ⟨⟨rfl,h2⟩,h3⟩:=h;match l,l2,h2,h3 with
   | [x],[],h2,_=>exact ⟨x,rfl,h2⟩
  | _=>exact va h
 | _=>exact va h
theorem oH {x':AU} {n0:List AU} (h:BI P num op (.m9 x' n0)=true) : ∃ x xs ts,op = .call ⟨.value x,xs,ts⟩/\B5 x x'=true/\EV xs.toList n0=true:=by
 cases op with
 | call c =>
  obtain ⟨cl,xs,ts⟩:=c;cases cl with
  | builtin b=>cases b<;>exact va h
  | value g =>
   simp only[BI,ya]at h;exact ⟨g,xs,ts,rfl,h.1,h.2⟩
  | invoke=>exact va h
 | _=>exact va h
end
end Go.c6
namespace Go.c6
open Go.RowKit
def CI.w8:CI->AJ->AJ
 | .val _,o=>o
 | .new s b _,o=>o.put s ((o s).new b)
 | .Bf s b _,o=>o.put s ((o s).new b)
 | .dw _ o',_=>o'
 | .Cu s _ o',o=>o'.put s (o s)
 | .q6 s x,o=>o.put s x
 | .zw s x _,o=>o.put s x
def CI.valOf:CI->AJ->AV
 | .val v,_=>v
 | .new s _ v,o=>v (o.g7 s)
 | .Bf s _ v,o=>v (o.g7 s)
 | .dw v _,_=>v
 | .Cu _ v _,_=>v
 | .q6 _ _,_ => .c5 []
 | .zw _ _ v,_=>v
section
variable {B:Nat} {S:Nat->Prop} {w0:World} {m:M}
theorem IO {k:IntKind} {n:Int} {v:Value} (h:CV B S m (.int k n) v):v = .int k n:=by
 cases h with
 | ca h=>cases h with
  | one h=>cases h with
   | rd h=>cases h;rfl
theorem V8 {b:Bool} {v:Value} (h:CV B S m (.bool b) v):v = .bool b:=by
 cases h with
 | ca h=>cases h with
  | one h=>cases h with
   | rd h=>cases h;rfl
theorem dV {cs:u_} {v:Value} (h:CV B S m (.agg cs) v) : ∃ vs:List Value,v = .agg vs.toArray/\CL B S m cs vs:=by
 cases h with
 | ca h=>cases h with
  | one h=>cases h with
   | rd h=>cases h
  | agg _ vs h=>exact ⟨vs,rfl,h⟩
theorem lN {cs:u_} {v:Value} (h:CV B S m (.c5 cs) v) : ∃ vs:List Value,v = .tuple vs.toArray/\cs.length=vs.length /\ ∀ (j:Nat) (c:AV) (u:Value),cs[j]? = some c->vs[j]? = some u->CA B S m c u:=by
 cases h with
 | ca h=>cases h with
  | one h=>cases h with
   | rd h=>cases h
 | c5 _ vs hl h=>exact ⟨vs,rfl,hl,h⟩
theorem Q4 (k:IntKind) (n:Int):CV B S m (.int k n) (.int k n):= .ca (.one (.rd (.int k n)))
theorem aU (b:Bool):CV B S m (.bool b) (.bool b):= .ca (.one (.rd (.bool b)))
theorem Sa:CV B S m (.c5 []) undef := .c5 [] [] rfl (λ j c v h=>by simp at h)
theorem dX {a:AV} {cs:u_} {v:Value} (h:CV B S m a v) (hc:cellsOf a=some cs):CL B S m cs v.cells.toList:=by
 cases h with
 | any v=>simp [cellsOf]at hc
 | c5=>simp [cellsOf]at hc
 | ca h=>cases h with
  | agg fg vs h =>
   obtain rfl:fg=cs:=by simpa [cellsOf] using hc
   simpa [Value.cells] using h
  | fn=>simp [cellsOf]at hc
  | ux=>simp [cellsOf]at hc
  | one h =>
   have h1:v.cells.toList=[v]:=by
    cases h with
    | rd h=>cases h<;>rfl
    | _=>rfl
   have h2:cs=[a]:=by
    cases h with
    | rd h=>cases h<;>simp [cellsOf]at hc<;>exact hc.symm
    | _=>simp [cellsOf]at hc;exact hc.symm
   rw[h1,h2];refine ⟨rfl,λ j c u hj hu => ?_⟩;cases j with
   | zero=>simp at hj hu;subst hj hu;exact h
   | succ j=>simp at hj
theorem Afr {cs:u_} {vs:List Value} (h:CL B S m cs vs) : ∀ v∈vs,v.oneCell'=true:=by
 intro v hv;obtain ⟨j,hj,rfl⟩:=Nc hv;have Fe:j<cs.length:=by rw[h.1];exact hj
 exact (h.2 j cs[j] vs[j] (zE Fe) (zE hj)).one
theorem Afs {cs:u_} {vs:List Value} (h:CL B S m cs vs) (off n:Nat):CL B S m ((cs.drop off).take n) ((vs.drop off).take n):=by
 refine ⟨by simp [h.1],λ j c v hj hv => ?_⟩;rw[da]at hj hv;split at hj
 ·rename_i j9
  rw[if_pos j9]at hv;rw[Ra]at hj hv;exact h.2 _ c v hj hv
 ·cases hj
theorem wS {v:Value} {a:AV} (h:eJ v a=true):CC B S m a v:=by
 unfold eJ at h;split at h
 ·simp only[ya,beq_iff_eq]at h
  obtain ⟨rfl,rfl⟩:=h;exact .rd (.int _ _)
 ·obtain rfl:_=_:=by simpa using h
  exact .rd (.bool _)
 ·exact .nil
 ·rename_i s s'
  obtain rfl:s=s':=by
   have h':s.data.toList=s'.data.toList:=by simpa using h
   obtain ⟨⟨l⟩⟩:=s;obtain ⟨⟨l'⟩⟩:=s';simp only at h';rw[h']
  exact .rd (.str _)
 ·exact .rd .my
 ·cases h
theorem YD : ∀ {vs:List Value} {cs:u_},QM vs cs=true->CL B S m cs vs
 | [],[],_=>⟨rfl,λ j c v h=>by simp at h⟩
 | v::r,c::l,h=>by
  simp only[QM,ya]at h;have ih:=YD (vs:=r) (cs:=l) h.2;refine ⟨by simp [ih.1],λ j c' v' hj hv => ?_⟩;cases j with
  | zero=>simp at hj hv;subst hj hv;exact wS h.1
  | succ j=>exact ih.2 j c' v' (by simpa using hj) (by simpa using hv)
 | [],_::_,h=>by simp [QM]at h
 | _::_,[],h=>by simp [QM]at h
theorem Ahh {v:Value} {a:AV} (h:mO v a=true):CV B S m a v:=by
 unfold mO at h;split at h
 ·rename_i cs l
  have:=YD (B:=B) (S:=S) (m:=m) h
  exact .ca (by simpa using CA.agg l cs.toList this)
 ·exact .ca (.one (wS h))
def CZ (B:Nat) (S:Nat->Prop) (m:M) (ρ:AU->AV) (e:Operand->Value):Prop := ∀ x y,B5 x y=true->CV B S m (ρ y) (e x)
theorem Amr {T:Nat->AV} {a:Act} {ρ:AU->AV} (hρt : ∀ n,ρ (.t n)=T n) (hρc : ∀ v,ρ (.c v)=v) (h : ∀ i,CV B S m (T i) (a.tmps.getD i undef)):CZ B S m ρ a.eval:=by
 intro x y vk;unfold B5 at vk;split at vk
 ·obtain rfl:_=_:=by simpa using vk
  rw[hρt];exact h _
 ·rw[hρc]
  exact Ahh vk
 ·obtain rfl:_=_:=by simpa using vk
  rw[hρc];exact .ca (.fn _ _ _ [] [] (λ_=>rfl) ⟨rfl,λ j c v h=>by simp at h⟩)
 ·cases vk
variable {P:Program} {num:Nat->Nat} {o:Oper} {a:Act} {ρ:AU->AV} {K:Act->World->Prop} {Q:Exit->Act->World->Prop}
theorem P9 {w w':World} {u:Value} (h:(execOp a.eval o).run P w = .ok (.value u) w') (hk:K (a.put o.dst u) w'):o.wp P a w K Q:=by
 unfold Oper.wp;rw[h];exact hk
theorem AnJ {w w':World} (h:(execOp a.eval o).run P w = .ok .skip w') (hk:K (a.put o.dst undef) w'):o.wp P a w K Q:=by
 unfold Oper.wp;rw[h];exact hk
def C4 (B:Nat) (S:Nat->Prop) (w0:World) (P:Program) (o:Oper) (a:Act) (m:M) (E:CI):Prop :=
 ∀ (K:Act->World->Prop) (Q:Exit->Act->World->Prop),(∀ u m',m'.own=E.w8 m.own->BW B S w0 m'->DY B S m m'->CV B S m' (E.valOf m.own) u->K (a.put o.dst u) m'.w)->o.wp P a m.w K Q
theorem EU (hm:BW B S w0 m) {v:AV} {u:Value} (h:(execOp a.eval o).run P m.w = .ok (.value u) m.w) (hc:CV B S m v u):C4 B S w0 P o a m (.val v) :=
 λ K Q hK=>P9 h (hK u m rfl hm (DY.refl m) hc)
theorem AgN (hm:BW B S w0 m) (hs:CZ B S m ρ a.eval) {y:AU} (h:BI P num o.op (.m5 y)=true):C4 B S w0 P o a m (.val (ρ y)):=by
 obtain ⟨x,hx,he⟩:=Akg h;refine EU hm (u:=a.eval x) ?_ (hs x y he);rcases hx with hx|hx<;>simp [execOp,hx]
theorem AgT (hm:BW B S w0 m) {s z:Nat} (h:BI P num o.op (.v5 s z)=true):C4 B S w0 P o a m (.Bf s ⟨z,[]⟩ (λ t => .row s t z 0 0)):=by
 obtain ⟨hx,hz⟩:=Akm h;intro K Q hK;obtain ⟨h1,h2⟩:=Zr hm s z;refine P9 (u := .slice none 0 0) (w':=m.w) ?_ (hK _ ⟨g8 m s none,m.own.put s ((m.own s).new ⟨z,[]⟩),m.w⟩ rfl h1 h2 ?_)
 ·rcases hx with hx|hx<;>simp [execOp,hx,Act.eval]
 ·refine .ca (.one (.row s (m.own.g7 s) z 0 0 none 0 ?_ O' (Na _) (λ h=>O') λ b hb => ?_))
  ·show _<AJ.g7 _ s
   rw[M8];simp
  ·change AJ.get _ s _=some b at hb
   rw[HA,if_pos ⟨rfl,rfl⟩]at hb;obtain rfl:(⟨z,[]⟩:EP)=b:=by simpa using hb
   exact ⟨rfl,.inl ⟨rfl,rfl⟩⟩
theorem vQ (hm:BW B S w0 m) (hs:CZ B S m ρ a.eval) {c' a' b':AU} (h:BI P num o.op (.pick c' a' b')=true) {t:Bool} (hc:ρ c' = .bool t) :
  C4 B S w0 P o a m (.val (if t then ρ a' else ρ b')):=by
 obtain ⟨c,x,y,k6,h1,h2,h3⟩:=Akh h;have w5:=V8 (hc ▸ hs c c' h1);refine EU hm (u:=if t then a.eval x else a.eval y) ?_ ?_
 ·cases t<;>simp [execOp,k6,w5,asBool]
 ·cases t
  ·exact hs y b' h3
  ·exact hs x a' h2
theorem Amm (f:BinOp) (t:TypeId) (k k':IntKind) (x y:Int) (v:AV) (h:DP f k x k' y=some v) (w:World) : ∃ u,(binOp f t (.int k x) (.int k' y)).run P w = .ok u w/\((∃ n,v = .int k n/\u = .int k n) \/ ∃ b,v = .bool b/\u = .bool b):=by
 cases f<;>simp only[DP]at h;case shl =>
  split at h
  ·cases h
  ·rename_i hy;simp at h;subst h
   exact ⟨_,by simp [binOp,Op.shift,hy],.inl ⟨_,rfl,rfl⟩⟩
 case shr =>
  split at h
  ·cases h
  ·rename_i hy;simp at h;subst h
   exact ⟨_,by simp [binOp,Op.shift,hy],.inl ⟨_,rfl,rfl⟩⟩
 case quo =>
  split at h
  ·rename_i hy;obtain ⟨rfl,hy⟩:=hy;simp at h;subst h
   exact ⟨_,by simp [binOp,Op.intDiv,hy],.inl ⟨_,rfl,rfl⟩⟩
  ·cases h
 case rem =>
  split at h
  ·rename_i hy;obtain ⟨rfl,hy⟩:=hy;simp at h;subst h
   exact ⟨_,by simp [binOp,Op.intDiv,hy],.inl ⟨_,rfl,rfl⟩⟩
  ·cases h
 case and|or|xor|andNot =>
  all_goals
   split at h
   ·rename_i hk;subst hk;obtain rfl:=oa h
    exact ⟨_,by simp only[binOp,ne_eq,not_true_eq_false,if_false];rfl,.inl ⟨_,rfl,rfl⟩⟩
   ·cases h
 case add|sub|mul =>
  all_goals
   split at h
   ·rename_i hk;subst hk;obtain rfl:=oa h
    exact ⟨_,by simp [binOp,Op.intArith],.inl ⟨_,rfl,rfl⟩⟩
   ·cases h
 all_goals
  split at h
  ·rename_i hk;subst hk;obtain rfl:=oa h
   exact ⟨_,by simp [binOp,Op.intCmp],.inr ⟨_,rfl,rfl⟩⟩
  ·cases h
theorem Amg (f:BinOp) (t:TypeId) (x y:Operand) (k k':IntKind) (n n':Int) (w:World):(eqGuard f t x y (.int k n) (.int k' n')).run P w = .ok () w:=by
 unfold eqGuard;cases f<;>simp
theorem Amh (f:BinOp) (t:TypeId) (x y:Operand) (b b':Bool) (w:World):(eqGuard f t x y (.bool b) (.bool b')).run P w = .ok () w:=by
 unfold eqGuard;cases f<;>simp
theorem Agm (hm:BW B S w0 m) (hs:CZ B S m ρ a.eval) {f:BinOp} {x' y':AU} (h:BI P num o.op (.bin f x' y')=true) {k k':IntKind} {n n':Int} {v:AV} (hx:ρ x' = .int k n) (hy:ρ y' = .int k' n') (hv:DP f k n k' n'=some v) :
  C4 B S w0 P o a m (.val v):=by
 obtain ⟨t,x,y,u,k6,h1,h2⟩:=AjZ h;have ex:=IO (hx ▸ hs x x' h1);have ey:=IO (hy ▸ hs y y' h2);obtain ⟨r,hr,z8⟩:=Amm (P:=P) f t k k' n n' v hv m.w;refine EU hm (u:=r) ?_ ?_
 ·simp [execOp,k6,ex,ey,Amg,hr]
 ·rcases z8 with ⟨q,rfl,rfl⟩|⟨q,rfl,rfl⟩
  ·exact Q4 _ _
  ·exact aU _
theorem Amj (t:TypeId) (b b':Bool) (hu:P.underlying t=some .bool) (w:World):(Op.equal t (.bool b) (.bool b')).run P w = .ok (b == b') w:=by
 have h : ∀ d:Nat,(Op.equalIn (d+1) t (.bool b) (.bool b')).run P w = .ok (b == b') w:=λ d=>by
  unfold Op.equalIn;rw[Sem.run_bind,run_underlying hu];rfl
 exact h 9999
theorem Agl (hm:BW B S w0 m) (hs:CZ B S m ρ a.eval) {ne:Bool} {x' y':AU} (h:BI P num o.op (.beq ne x' y')=true) {b b':Bool} (hx:ρ x' = .bool b) (hy:ρ y' = .bool b') :
  C4 B S w0 P o a m (.val (.bool (if ne then !(b == b') else b == b'))):=by
 obtain ⟨t,x,y,u,k6,hu,h1,h2⟩:=AjY h;have ex:=V8 (hx ▸ hs x x' h1);have ey:=V8 (hy ▸ hs y y' h2);refine EU hm (u := .bool (if ne then !(b == b') else b == b')) ?_ (aU _);cases ne<;>simp [execOp,k6,ex,ey,Amh,binOp,Amj t b b' hu]
theorem yY : ∀ {fs:List Field} {k n:Nat},fieldsI P k fs n=true->k<=n
 | [],k,n,h=>by simp only[fieldsI,beq_iff_eq]at h;omega
 | f::fs,k,n,h=>by
  simp only[fieldsI,ya]at h;have:=yY h.2
  omega
theorem Ur (d:Nat) (a b:List Int) (w:World) : ∀ {fs:List Field} {k:Nat},fieldsI P k fs a.length=true->b.length=a.length ->
  (Op.eqFields (d+1) (a.map (Value.int .i64)).toArray (b.map (Value.int .i64)).toArray fs).run P w = .ok (decide (a.drop k=b.drop k)) w
 | [],k,h,hl=>by
  simp only[fieldsI,beq_iff_eq]at h;rw[Md O',Md O'];simp [Op.eqFields]
 | f::fs,k,h,hl=>by
  simp only[fieldsI,ya,bne_iff_ne,beq_iff_eq]at h;obtain ⟨⟨⟨h1,h2⟩,h3⟩,h4⟩:=h;have hk:=yY h4;have hp:P.plainKey f.type=true:=by unfold Program.plainKey;split at h3<;>simp_all
  obtain ⟨kd,hu⟩ : ∃ kd,P.underlying f.type=some (.int kd):=by split at h3<;>simp_all
  have e1:(a.map (Value.int .i64)).toArray[f.offset]? = some (.int .i64 (a[k]' O')):=by rw[h2];simp [zE (show k<a.length by omega)]
  have e2:(b.map (Value.int .i64)).toArray[f.offset]? = some (.int .i64 (b[k]' O')):=by rw[h2];simp [zE (show k<b.length by omega)]
  have ih:=Ur d a b w h4 hl;have hd:(a.drop k=b.drop k)↔(a[k]' O'=b[k]' O'/\a.drop (k+1)=b.drop (k+1)):=by
   rw[Qb (show k<a.length by omega),Qb (show k<b.length by omega),xd]
  simp only[Op.eqFields,ne_eq,h1,not_false_eq_true,if_true,Sem.run_bind,run_part_plain w hp e1,run_part_plain w hp e2,Result.andThen_ok,run_equalIn_int w d f.type .i64 kd _ _ hu,Sem.run_ite];by_cases bq:a[k]' O'=b[k]' O'
  ·simp [bq,ih,hd]
  ·simp [bq,hd]
theorem oE : ∀ {cs:u_} {a:List Int} {vs:List Value},I4 cs=some a->CL B S m cs vs->vs=a.map (Value.int .i64)
 | [],a,vs,h,hc=>by
  simp only[I4,za]at h;subst h;have:=hc.1
  exact ea (by simpa using this.symm)
 | c::r,a,vs,h,hc=>by
  cases vs with
  | nil=>have:=hc.1;simp at this
  | cons v vs =>
   cases c with
   | int k n =>
    cases k<;>simp only[I4]at h<;>first|cases h|skip
    cases hr:I4 r with
    | none=>rw[hr]at h;cases h
    | some b =>
     rw[hr]at h;simp only[Pa,za]at h;subst h;have h0:=IO (.ca (.one (hc.2 0 _ v rfl rfl)));have ih:=oE (vs:=vs) hr ⟨by have:=hc.1;simpa using this,λ j c v h1 h2=>hc.2 (j+1) c v h1 h2⟩;rw[h0,ih];rfl
   | _=>simp only[I4]at h;cases h
theorem Agg (hm:BW B S w0 m) (hs:CZ B S m ρ a.eval) {ne:Bool} {n:Nat} {x' y':AU} (h:BI P num o.op (.tk ne n x' y')=true) {cs ds:u_} (hx:ρ x' = .agg cs) (hy:ρ y' = .agg ds) {p q:List Int} (hp:I4 cs=some p) (hq:I4 ds=some q) (hn:p.length=n/\q.length=n) :
  C4 B S w0 P o a m (.val (.bool (if ne then !(decide (p=q)) else decide (p=q)))):=by
 obtain ⟨t,x,y,u,k6,dp,h1,h2⟩:=AjV h;obtain ⟨vx,ex,cx⟩:=dV (hx ▸ hs x x' h1);obtain ⟨vy,ey,cy⟩:=dV (hy ▸ hs y y' h2);obtain rfl:=oE hp cx;obtain rfl:=oE hq cy;obtain ⟨rfl,xn⟩:=hn;simp only[nI,ya,Hc]at dp;obtain ⟨⟨hf,g9⟩,hg⟩:=dp;obtain ⟨fs,hu,iu⟩ : ∃ fs,P.underlying t=some (.struct fs)/\fieldsI P 0 fs.toList p.length=true:=by
  split at hf
  ·exact ⟨_,V',hf⟩
  ·cases hf
 have hfo:P.fieldsOf t=fs:=by simp [Program.fieldsOf,hu]
 have hr:=run_equalIn_struct m.w 9999 t (p.map (Value.int .i64)).toArray (q.map (Value.int .i64)).toArray (by rw[hfo];exact hu) g9;rw[hfo,Ur 9998 p q m.w iu xn,vd,vd]at hr;refine EU hm (u := .bool (if ne then !(decide (p=q)) else decide (p=q))) ?_ (aU _);cases ne
 ·simp [execOp,k6,ex,ey,run_eqGuard_agg m.w _ t x y _ _ hg,run_eql_struct,hr]
 ·simp [execOp,k6,ex,ey,run_eqGuard_agg m.w _ t x y _ _ hg,run_neq_struct,hr]
theorem AgS (hm:BW B S w0 m) (hs:CZ B S m ρ a.eval) {f:UnOp} {x':AU} (h:BI P num o.op (.un f x')=true) {v:AV} (hv:VM f (ρ x')=some v):C4 B S w0 P o a m (.val v):=by
 obtain ⟨t,x,k6,h1⟩:=Akl h;have hx:=hs x x' h1;unfold VM at hv;split at hv
 ·rename_i k n hk
  have ex:=IO (hk ▸ hx);split at hv
  ·obtain rfl:_=v:=by simpa using hv
   exact EU hm (by simp [execOp,k6,ex,Op.unary,Op.intArith]) (Q4 _ _)
  ·obtain rfl:_=v:=by simpa using hv
   exact EU hm (by simp only[execOp,k6,ex,Op.unary];rfl) (Q4 _ _)
  ·cases hv
 ·rename_i b hk
  have ex:=V8 (hk ▸ hx);split at hv
  ·obtain rfl:_=v:=by simpa using hv
   exact EU hm (by simp [execOp,k6,ex,Op.unary]) (aU _)
  ·cases hv
 ·cases hv
theorem Agx (hm:BW B S w0 m) (hs:CZ B S m ρ a.eval) {k:IntKind} {x':AU} (h:BI P num o.op (.conv k x')=true) {k':IntKind} {n:Int} (hx:ρ x' = .int k' n):C4 B S w0 P o a m (.val (.int k (k.wrap n))):=by
 obtain ⟨s,d,x,ds,k6,Dm,hd,h1⟩:=Aj8 h;have ex:=IO (hx ▸ hs x x' h1);refine EU hm (u := .int k (k.wrap n)) ?_ (Q4 _ _);simp [execOp,k6,ex,convert,run_underlying Dm,run_underlying hd,Conv.intToInt]
theorem Amk (t:TypeId) (a:Option Addr) (n c:Nat) {e:TypeId} (hu:P.underlying t=some (.slice e)) (w:World):(Op.equal t (.slice a n c) (.slice none 0 0)).run P w = .ok a.isNone w:=by
 have h : ∀ d:Nat,(Op.equalIn (d+1) t (.slice a n c) (.slice none 0 0)).run P w = .ok a.isNone w:=λ d=>by
  unfold Op.equalIn;rw[Sem.run_bind,run_underlying hu];cases a<;>rfl
 exact h 9999
theorem Ami (f:BinOp) (t:TypeId) (x y:Operand) (a b:Option Addr) (n c n' c':Nat) (w:World):(eqGuard f t x y (.slice a n c) (.slice b n' c')).run P w = .ok () w:=by
 unfold eqGuard;cases f<;>simp
theorem eG (hm:BW B S w0 m) (hs:CZ B S m ρ a.eval) {ne:Bool} {x':AU} (h:BI P num o.op (.uq ne x')=true) {b:Bool} (hx : ∀ v,CV B S m (ρ x') v -> ∃ ad n c,v = .slice ad n c/\ad.isNone=b) :
  C4 B S w0 P o a m (.val (.bool (xor b ne))):=by
 obtain ⟨t,x,u,e,k6,hu,h1⟩:=Akb h;obtain ⟨ad,n,c,ex,hb⟩:=hx _ (hs x x' h1);refine EU hm (u := .bool (xor b ne)) ?_ (aU _);have e0:a.eval (.const (.slice none 0 0)) = .slice none 0 0:=rfl;cases ne<;>cases b<;>simp [execOp,k6,ex,e0,Ami,binOp,Amk t ad n c hu,hb]
theorem SC {v:Value} (h:CV B S m .nil v):v = .slice none 0 0:=by
 cases h with
 | ca h=>cases h with
  | one h=>cases h with
   | rd h=>cases h
   | nil=>rfl
theorem uY {b:Bool} {v:Value} (h:CV B S m (.cp (.bool b)) v) : ∃ ad c,v = .slice ad 0 c/\ad.isNone=b:=by
 cases h with
 | ca h=>cases h with
  | one h=>cases h with
   | rd h=>cases h with
    | emp b a cap h=>exact ⟨a,cap,rfl,h⟩
theorem AfU {l:Bool} {e:u_} {es:o_} {v:Value} (h:CV B S m (.sl l (e::es)) v) : ∃ ad n c,v = .slice ad n c/\ad.isNone=false:=by
 cases h with
 | ca h=>cases h with
  | one h=>cases h with
   | rd h=>cases h with
    | sl=>exact ⟨_,_,_,rfl,rfl⟩
theorem AfT {s t z off n:Nat} {v:Value} (h:CV B S m (.row s t z off (n+1)) v) : ∃ ad n c,v = .slice ad n c/\ad.isNone=false:=by
 cases h with
 | ca h=>cases h with
  | one h=>cases h with
   | rd h=>cases h
   | row _ _ _ _ _ a cap _ _ _ ha=>exact ⟨_,_,_,rfl,by have:=ha O';cases a<;>simp_all⟩
theorem AgO (hm:BW B S w0 m) (hs:CZ B S m ρ a.eval) {tb:N'} {x':AU} (h:BI P num o.op (.gx tb x')=true) {k:IntKind} {n:Int} {v:Nat} (hx:ρ x' = .int k n) (h0:0<=n) (hv:tb[n.toNat]? = some v) :
  C4 B S w0 P o a m (.val (.int .u8 v)):=by
 obtain ⟨t,s,i,k6,hu,pz,h1⟩:=Aki h;have ex:=IO (hx ▸ hs i x' h1);have hb : ∃ b:UInt8,s[n.toNat]? = some b/\b.toNat=v:=by
  rw[<-pz,ja]at hv;cases hg:s.data.toList[n.toNat]? with
  | none=>simp [hg]at hv
  | some b =>
   simp only[hg,Pa,za]at hv;refine ⟨b,?_,hv⟩;have j9:n.toNat<s.size:=by
    have:=(zS hg).1
    simpa using this
   rw[getElem?_pos s n.toNat j9];congr 1;have:=(zS hg).2
   rw[<-this];rfl
 obtain ⟨b,qk,u4⟩:=hb;refine EU hm (u := .int .u8 v) ?_ (Q4 _ _);have e0:a.eval (.const (.string s)) = .string s:=rfl;simp [execOp,k6,ex,e0,Instr.index,asIntOf,run_underlying hu,h0,qk,u4]
theorem Alk {x c:AV} {v:Value} (h:CV B S m x v) (hc:HS x=some c):CC B S m c v:=by
 cases h with
 | any=>simp [HS]at hc
 | c5=>simp [HS]at hc
 | ca h=>cases h with
  | agg=>simp [HS]at hc
  | fn=>simp [HS]at hc
  | ux=>simp [HS]at hc
  | one h =>
   have:c=x:=by
    cases h with
    | rd h=>cases h<;>simp [HS]at hc<;>exact hc.symm
    | _=>simp [HS]at hc;exact hc.symm
   subst this;exact h
theorem wO (hs:CZ B S m ρ a.eval) : ∀ {xs:List Operand} {n0:List AU} {cs:u_},EV xs n0=true->n0.mapM (λ x=>HS (ρ x))=some cs->CL B S m cs (xs.map a.eval)
 | [],[],cs,_,h=>by
  simp at h;subst h;exact ⟨rfl,λ j c v h=>by simp at h⟩
 | x::r,y::l,cs,h,hc=>by
  simp only[EV,ya]at h;simp only[Da,Ba,vb]at hc;cases h1:HS (ρ y) with
  | none=>simp [h1]at hc
  | some c =>
   cases h2:l.mapM (λ x=>HS (ρ x)) with
   | none=>simp [h1,h2]at hc
   | some fg =>
    simp [h1,h2]at hc;subst hc;have ih:=wO hs h.2 h2;refine ⟨by simpa using ih.1,λ j c' v hj hv => ?_⟩;cases j with
    | zero =>
     simp at hj hv;subst hj hv;exact Alk (hs x y h.1) h1
    | succ j=>exact ih.2 j c' v (by simpa using hj) (by simpa using hv)
 | [],_::_,_,h,_=>by simp [EV]at h
 | _::_,[],_,h,_=>by simp [EV]at h
theorem AgK (hm:BW B S w0 m) (hs:CZ B S m ρ a.eval) {p:Bool} {f:Nat} {n0:List AU} (h:BI P num o.op (.ri p f n0)=true) {cs:u_} (hc:n0.mapM (λ x=>HS (ρ x))=some cs) :
  C4 B S w0 P o a m (.val (.fn (p&&cs.isEmpty) f (num f) cs)):=by
 obtain ⟨first,xs,k6,rfl,he⟩:=Akf h;have l9:=wO hs he hc;have gp:(xs.map a.eval)=(xs.toList.map a.eval).toArray:=by cases xs;simp
 refine EU hm (u := .func (.func (num f)) #[] (xs.toList.map a.eval).toArray) ?_ (.ca (.fn (p&&cs.isEmpty) f (num f) cs _ (λ h=>by simpa using (ya _ _ ▸ h:p=true/\cs.isEmpty=true).2) l9));simp [execOp,k6,Instr.makeFunc,gp]
end
end Go.c6

namespace Go.c6
open Go.RowKit
section
variable {B:Nat} {S:Nat->Prop} {w0:World} {m:M}
variable {P:Program} {num:Nat->Nat} {o:Oper} {a:Act} {ρ:AU->AV}
theorem X6 {cs:u_} {vs:List Value} (h:CL B S m cs vs) {j:Nat} {c:AV} (hj:cs[j]? = some c) : ∃ u,vs[j]? = some u/\CC B S m c u:=by
 have j9:j<cs.length:=(zS hj).1;have xb:j<vs.length:=by rw[<-h.1];exact j9
 exact ⟨vs[j],zE xb,h.2 j c _ hj (zE xb)⟩
theorem Ak8 {s:Nat} {b:EP} {w':World} {g:Nat}:CV B S ⟨g8 m s (some g),m.own.put s ((m.own s).new b),w'⟩ (.ptr s (m.own.g7 s) 0 0) (.pointer (some ⟨g,0,none⟩)):=by
 refine .ca (.one (.ptr s (m.own.g7 s) 0 0 ⟨g,0,none⟩ ?_ λ b' k8=>⟨g,?_,Z'⟩))
 ·show _<AJ.g7 _ s
  rw[M8];simp
 ·simp [g8]
theorem vO (hm:BW B S w0 m) (s:Nat) (cs:u_) (vs:Array Value) (e:TypeId) (hc:CL B S m cs vs.toList) (h:(execOp a.eval o).run P m.w = .ok (.value (.pointer (some ⟨m.w.heap.size,0,none⟩))) (m.w.alloc (.cells vs e))) :
  C4 B S w0 P o a m (.new s ⟨cs.length,[cs]⟩ (λ t => .ptr s t 0 0)):=by
 intro K Q hK;obtain ⟨h1,h2⟩:=dG hm s ⟨cs.length,[cs]⟩ vs e Z' (λ i fg hi j c hj=>by
  cases i with
  | zero =>
   obtain rfl:cs=fg:=by simpa using hi
   obtain ⟨u,hu,w7⟩:=X6 hc hj;exact ⟨u,by simpa using hu,w7⟩
  | succ i=>simp at hi)
 exact P9 h (hK _ ⟨g8 m s (some m.w.heap.size),m.own.put s ((m.own s).new ⟨cs.length,[cs]⟩),m.w.alloc (.cells vs e)⟩ rfl h1 h2 Ak8)
theorem Agn (hm:BW B S w0 m) (hs:CZ B S m ρ a.eval) {s:Nat} {x':AU} (h:BI P num o.op (.box s x')=true) {cs:u_} (hc:cellsOf (ρ x')=some cs) :
  C4 B S w0 P o a m (.new s ⟨cs.length,[cs]⟩ (λ t => .ptr s t 0 0)):=by
 obtain ⟨t,x,k6,h1⟩:=Aj0 h;exact vO hm s cs (a.eval x).cells t (dX (hs x x' h1) hc) (by simp [execOp,k6,Instr.box,newVar,newRow])
theorem Agh (hm:BW B S w0 m) {s:Nat} {z:u_} (h:BI P num o.op (.alloc s z)=true):C4 B S w0 P o a m (.new s ⟨z.length,[z]⟩ (λ t => .ptr s t 0 0)):=by
 obtain ⟨t,k6,h1⟩:=AjW h;obtain ⟨i,v,hi,hz,he⟩:=rM h1;exact vO hm s z v.cells t (YD he) (by simp [execOp,k6,Instr.alloc,zeroValue,typeInfo,hi,hz,newVar,newRow])
theorem nN (off:Nat) : ∀ (vs:List Value) (k:Nat) (cells:Array Value),off+k+vs.length<=cells.size ->
  ((vs.zipIdx k).foldl (λ cs (x:Value × Nat)=>cs.setIfInBounds (off+x.2) x.1) cells).toList=cells.toList.take (off+k)++vs++cells.toList.drop (off+k+vs.length)
 | [],k,cells,_=>Z'
 | v::r,k,cells,h=>by
  simp only[Pc]at h;rw[List.zipIdx_cons,yd,nN off r (k+1) _ G'];simp only[Array.toList_setIfInBounds,Pc];apply List.ext_getElem?;intro q;have e1:(cells.toList.set (off+k) v).drop (off+(k+1)+r.length)=cells.toList.drop (off+k+(r.length+1)):=by
   rw[show off+(k+1)+r.length=off+k+(r.length+1) by omega];exact List.drop_set_of_lt O'
  have e2:(cells.toList.set (off+k) v).take (off+(k+1))=cells.toList.take (off+k)++[v]:=by
   rw[show off+(k+1)=off+k+1 by omega,List.take_succ_eq_append_getElem G'];simp [List.take_set_of_le]
  rw[e1,e2];simp
theorem nF (place:Nat->Option (Nat × Nat)) (hs:CZ B S m ρ a.eval) : ∀ (ps:List (Nat × Operand)) (ff:List (Nat × Nat × AU)) (cs fg:u_) (vs:Array Value),W4 place ps ff=true->CL B S m cs vs.toList ->
  fill cs (ff.map λ p=>(p.1,p.2.1,ρ p.2.2))=some fg -> ∃ bj,Instr.fill place vs (ps.map λ p=>(p.1,a.eval p.2))=some bj/\CL B S m fg bj.toList
 | [],[],cs,fg,vs,_,hc,hf=>by
  simp [fill]at hf;subst hf;exact ⟨vs,rfl,hc⟩
 | (i,x)::r,(off,n,y)::l,cs,fg,vs,hp,hc,hf=>by
  simp only[W4,ya,beq_iff_eq]at hp;obtain ⟨⟨Pz,Ed⟩,hp3⟩:=hp;simp only[Pb,fill]at hf;cases hcell:cellsOf (ρ y) with
  | none=>simp [hcell]at hf
  | some us =>
   simp only[hcell]at hf;split at hf
   ·rename_i hn
    obtain ⟨hn1,Kx⟩:=hn;have gi:=dX (hs x y Ed) hcell;have w4:(a.eval x).cells.size=n:=by rw[<-hn1,gi.1];simp
    have Eb:off+(a.eval x).cells.size<=vs.size:=by rw[w4];have:=hc.1;simp at this;omega
    have wy:=nN off (a.eval x).cells.toList 0 vs (by simpa using Eb);have y7:Instr.fill place vs (((i,x)::r).map λ p=>(p.1,a.eval p.2))=Instr.fill place ((a.eval x).cells.zipIdx.foldl (λ cs (c,j)=>cs.setIfInBounds (off+j) c) vs) (r.map λ p=>(p.1,a.eval p.2)):=by
     simp only[Pb,Instr.fill,Pz];rw[if_neg G']
    rw[y7];refine nF place hs r l (splice cs off us) fg _ hp3 ?_ hf;have hz:((a.eval x).cells.zipIdx.foldl (λ cs (c,j)=>cs.setIfInBounds (off+j) c) vs).toList=vs.toList.take off++(a.eval x).cells.toList++vs.toList.drop (off+(a.eval x).cells.toList.length):=by
     rw[<-wc];simpa using wy
    rw[hz];unfold splice;refine ⟨?_,λ j c v hj hv => ?_⟩
    ·have:=hc.1;have:=gi.1;simp at *;omega
    ·have iv:=hc.1
     have eo:=gi.1;simp only[Fb]at iv eo;rw[Gd]at hj hv;simp only[ze,nb,Fb]at hj hv;rw[Gd]at hj hv;simp only[nb,Fb]at hj hv;have gn:min off cs.length=off:=O'
     have gj:min off vs.size=off:=O'
     rw[gn]at hj;rw[gj]at hv;rw[<-eo]at hv;split at hj
     ·rename_i h1
      rw[if_pos h1]at hv;split at hj
      ·rename_i h2
       rw[if_pos h2]at hv;rw[da]at hj hv;rw[if_pos h2]at hj hv;exact hc.2 j c v hj hv
      ·rename_i h2
       rw[if_neg h2]at hv;exact gi.2 _ c v hj hv
     ·rename_i h1
      rw[if_neg h1]at hv;rw[Ra]at hj hv;exact hc.2 _ c v hj hv
   ·cases hf
 | [],_::_,_,_,_,hp,_,_=>by simp [W4]at hp
 | _::_,[],_,_,_,hp,_,_=>by simp [W4]at hp
theorem Agp (hm:BW B S w0 m) (hs:CZ B S m ρ a.eval) {z:u_} {ff:List (Nat × Nat × AU)} (h:BI P num o.op (.build z ff)=true) {cs:u_} (hf:fill z (ff.map λ p=>(p.1,p.2.1,ρ p.2.2))=some cs) :
  C4 B S w0 P o a m (.val (.agg cs)):=by
 obtain ⟨t,ps,k6,h1,h2⟩:=Aj2 h;obtain ⟨i,v,hi,hz,he⟩:=rM h1;have key : ∃ bj,P.built t (ps.map λ p=>(p.1,a.eval p.2)).toList=some bj/\CL B S m cs bj.toList:=by
  unfold kR at h2;unfold Program.built;split at h2
  ·rename_i fs hu
   split at h2
   ·rename_i places hp
    obtain ⟨bj,h3,h4⟩:=nF _ hs ps.toList ff z cs v.cells h2 (YD he) hf;refine ⟨bj,?_,h4⟩;simp only[hi,hu,hz,hp,nc];exact h3
   ·cases h2
  ·rename_i n e hu
   split at h2
   ·rename_i ie Ow
    obtain ⟨bj,h3,h4⟩:=nF _ hs ps.toList ff z cs v.cells h2 (YD he) hf;refine ⟨bj,?_,h4⟩;simp only[hi,hu,hz,Ow,nc];exact h3
   ·cases h2
  ·cases h2
 obtain ⟨bj,h3,h4⟩:=key;refine EU hm (u := .agg bj) ?_ (.ca (by simpa using CA.agg cs bj.toList h4));simp only[execOp,k6,Sem.run_bind];rw[run_build m.w t _ bj h3];rfl
theorem zD (size:Nat) (hs:CZ B S m ρ a.eval) : ∀ (ps:List (Nat × Operand)) (ff:List AU) (k:Nat) (es:o_) (vs:Array Value),WF k ps ff=true->ff.mapM (λ x=>cellsOf (ρ x))=some es->(∀ e∈es,e.length=size)->vs.size=(k+ff.length)*size ->
  ∃ bj,Instr.fill (λ i=>some (i*size,size)) vs (ps.map λ p=>(p.1,a.eval p.2))=some bj/\bj.size=vs.size/\(∀ q,q<k*size->bj[q]? = vs[q]?) /\ ∀ i cs,es[i]? = some cs -> ∀ j c,cs[j]? = some c -> ∃ u,bj[(k+i)*size+j]? = some u/\CC B S m c u
 | [],[],k,es,vs,_,jt,_,_=>by
  simp at jt;subst jt;exact ⟨vs,rfl,rfl,λ_ _=>rfl,λ i cs hi=>by simp at hi⟩
 | (i,x)::r,y::l,k,es,vs,he,jt,hz,hv=>by
  simp only[WF,ya,beq_iff_eq]at he;obtain ⟨⟨rfl,h1⟩,h2⟩:=he;simp only[Da,Ba,vb]at jt;cases hcell:cellsOf (ρ y) with
  | none=>simp [hcell]at jt
  | some us =>
   cases du:l.mapM (λ x=>cellsOf (ρ x)) with
   | none=>simp [hcell,du]at jt
   | some es' =>
    simp [hcell,du]at jt;subst jt;have gi:=dX (hs x y h1) hcell;have hus:us.length=size:=hz us Z';have w4:(a.eval x).cells.size=size:=by rw[<-hus,gi.1];simp
    simp only[Pc]at hv;have hle:i*size+size<=vs.size:=by rw[hv,show i+(l.length+1)=i+1+l.length by omega,Ea,Ea];omega
    have wy:=nN (i*size) (a.eval x).cells.toList 0 vs (by simp [w4];omega);generalize Jn:(a.eval x).cells.zipIdx.foldl (λ cs (c,j)=>cs.setIfInBounds (i*size+j) c) vs=Jx;have jk:Jx.toList=vs.toList.take (i*size)++(a.eval x).cells.toList++vs.toList.drop (i*size+size):=by
     rw[<-Jn,<-wc];simpa [w4] using wy
    have Eh:Jx.size=vs.size:=by
     have:=congrArg List.length jk
     simp [w4]at this;omega
    obtain ⟨bj,h3,h4,h5,h6⟩:=zD size hs r l (i+1) es' Jx h2 du (λ e he=>hz e (by simp [he])) (by rw[Eh,hv];congr 1;omega);refine ⟨bj,?_,h4.trans Eh,λ q hq => ?_,λ i' cs o5 j c hj => ?_⟩
    ·simp only[Pb,Instr.fill]
     rw[if_neg (by simp [w4];omega),Jn];exact h3
    ·rw[h5 q (by rw[Ea];omega)]
     have:Jx.toList[q]? = vs.toList[q]? := by
      rw[jk,Ic,Qa G',da,if_pos hq]
     simpa using this
    ·cases i' with
     | zero =>
      obtain rfl:us=cs:=by simpa using o5
      obtain ⟨u,hu,w7⟩:=X6 gi hj;have db:j<size:=by rw[<-hus];exact (zS hj).1
      refine ⟨u,?_,w7⟩;rw[Dc,h5 _ (by rw[Ea];omega)];have:Jx.toList[i*size+j]? = some u:=by
       rw[jk,Ic,Ka G'];simp only[nb,Fb,show min (i*size) vs.size=i*size by omega,show i*size+j-i*size=j by omega];rw[Qa (by simp [w4];omega)];exact hu
      simpa using this
     | succ i' =>
      obtain ⟨u,hu,w7⟩:=h6 i' cs (by simpa using o5) j c hj;exact ⟨u,by rw[show i+(i'+1)=i+1+i' by omega];exact hu,w7⟩
 | [],_::_,_,_,_,he,_,_,_=>by simp [WF]at he
 | _::_,[],_,_,_,he,_,_,_=>by simp [WF]at he
theorem pE {s z n cap:Nat} {es:o_} {w':World} {g:Nat} {arr:Array Value} {e:TypeId} (hz:0<z) (hn:n<=cap) (hg:w'.heap[g]? = some (.cells arr e (0,0))) (hc:cap*z<=arr.size) :
  CV B S ⟨g8 m s (some g),m.own.put s ((m.own s).new ⟨z,es⟩),w'⟩ (.row s (m.own.g7 s) z 0 n) (.slice (some ⟨g,0,none⟩) n cap):=by
 refine .ca (.one (.row s (m.own.g7 s) z 0 n _ cap ?_ hz hn (λ_=>rfl) λ b' k8=>⟨?_,.inr ⟨g,arr,e,?_,Z',hg,by simpa using hc⟩⟩))
 ·show _<AJ.g7 _ s
  rw[M8];simp
 ·change AJ.get _ s _=some b' at k8
  rw[HA,if_pos ⟨rfl,rfl⟩]at k8;obtain rfl:(⟨z,es⟩:EP)=b':=by simpa using k8
  rfl
 ·simp [g8]
theorem vT (hm:BW B S w0 m) (s z n cap:Nat) (es:o_) (vs:Array Value) (e:TypeId) (bu:0<z) (hn:n<=cap) (w4:cap*z<=vs.size) (hz : ∀ x∈es,x.length=z)
  (hc : ∀ i cs,es[i]? = some cs -> ∀ j c,cs[j]? = some c -> ∃ u,vs[i*z+j]? = some u/\CC B S m c u)
  (h:(execOp a.eval o).run P m.w = .ok (.value (.slice (some ⟨m.w.heap.size,0,none⟩) n cap)) (m.w.alloc (.cells vs e))) :
  C4 B S w0 P o a m (.new s ⟨z,es⟩ (λ t => .row s t z 0 n)):=by
 intro K Q hK;obtain ⟨h1,h2⟩:=dG hm s ⟨z,es⟩ vs e hz hc;exact P9 h (hK _ ⟨g8 m s (some m.w.heap.size),m.own.put s ((m.own s).new ⟨z,es⟩),m.w.alloc (.cells vs e)⟩ rfl h1 h2 (pE bu hn (heap_alloc_new _ _) w4))
theorem Ago (hm:BW B S w0 m) (hs:CZ B S m ρ a.eval) {s a8:Nat} {ff:List AU} (h:BI P num o.op (.a7 s a8 ff)=true) {es:o_} (jt:ff.mapM (λ x=>cellsOf (ρ x))=some es) (hz : ∀ e∈es,e.length=a8) :
  C4 B S w0 P o a m (.new s ⟨a8,es⟩ (λ t => .row s t a8 0 es.length)):=by
 obtain ⟨t,n,ps,e,i,k6,hu,hi,w4,h0,hn,Qq,fi,hzero⟩:=Aj1 h;have hlen:es.length=n:=by
  rw[hn];clear h fi hzero hn;induction ff generalizing es with
  | nil=>simp at jt;subst jt;rfl
  | cons y l ih =>
   simp only[Da,Ba,vb]at jt;cases hcell:cellsOf (ρ y) with
   | none=>simp [hcell]at jt
   | some us =>
    cases du:l.mapM (λ x=>cellsOf (ρ x)) with
    | none=>simp [hcell,du]at jt
    | some es' =>
     simp [hcell,du]at jt;subst jt;simp [ih du (λ e he=>hz e (by simp [he]))]
 obtain ⟨zc,Cn⟩ : ∃ zc:Array Value,(n*a8=0/\zc = #[])\/(¬ n*a8=0 /\ ∃ z,i.zero=some z/\zc=z.cells):=by
  by_cases k7:n*a8=0
  ·exact ⟨#[],.inl ⟨k7,rfl⟩⟩
  ·rcases hzero with Ab|⟨z,jk,mu⟩
   ·simp [Ab]at k7
   ·exact ⟨z.cells,.inr ⟨k7,z,jk,rfl⟩⟩
 have Js:((Array.range (n*a8)).map (zc[· % zc.size]!)).size=n*a8:=Z'
 obtain ⟨bj,h3,h4,_,h6⟩:=zD a8 hs ps.toList ff 0 es _ fi jt hz (by rw[Js,hn];simp);have o8:(execOp a.eval o).run P m.w = .ok (.value (.slice (some ⟨m.w.heap.size,0,none⟩) n n)) (m.w.alloc (.cells bj e)):=by
  simp only[execOp,k6,Instr.buildSlice,Sem.run_bind,run_underlying hu,Result.andThen_ok,sizeOf,typeInfo,run_program,hi,Sem.run_pure,w4];simp only[show ¬ (n*a8>2^24) from O',if_false,Sem.run_bind,Sem.run_pure,Result.andThen_ok];rcases Cn with ⟨Ab,rfl⟩|⟨Ab,z,jk,rfl⟩
  ·simp only[Ab,if_true,Sem.run_bind,Sem.run_pure,Result.andThen_ok,nc]
   rw[Ab]at h3;rw[h3];rfl
  ·simp only[Ab,if_false,Sem.run_bind,Sem.run_pure,Result.andThen_ok,nc,zeroValue,typeInfo,run_program,hi,jk]
   rw[h3];rfl
 rw[hlen];exact vT hm s a8 n n es bj e (Mb h0) (Na _) (by rw[h4,Js];exact Na _) hz (λ i cs o5 j c hj=>by simpa using h6 i cs o5 j c hj) o8
end
end Go.c6

namespace Go.c6
open Go.RowKit
section
variable {B:Nat} {S:Nat->Prop} {w0:World} {m:M}
variable {P:Program} {num:Nat->Nat} {o:Oper} {a:Act} {ρ:AU->AV}
theorem dW {x:AV} {v:Value} (h:CV B S m x v) (h1:x ≠ .any) (h2 : ∀ cs,x ≠ .agg cs) (h3 : ∀ cs,x ≠ .c5 cs) (h4 : ∀ p f g cs,x ≠ .fn p f g cs:=by intros;simp):CC B S m x v:=by
 cases h with
 | any=>exact absurd rfl h1
 | c5 as=>exact absurd rfl (h3 as)
 | ca h=>cases h with
  | one h=>exact h
  | agg cs=>exact absurd rfl (h2 cs)
  | fn p f g cs=>exact absurd rfl (h4 p f g cs)
  | ux f g cs=>exact absurd rfl (h4 true f g cs)
theorem Z8 {s t i j:Nat} {v:Value} (h:CV B S m (.ptr s t i j) v) : ∃ ad,v = .pointer (some ad)/\t<m.own.g7 s /\ ∀ b,m.own.get s t=some b -> ∃ g,m.ν s t=some g/\ad=⟨g,i*b.a8+j,none⟩:=by
 cases dW h Z' Z' Z' with
 | rd h=>cases h
 | ptr s t i j ad ht h'=>exact ⟨ad,rfl,ht,h'⟩
theorem lL {cs:u_} {v:Value} (h:CV B S m (.s9 cs) v) : ∃ (b o:Nat) (u:Nat->Value) (l:Bool),v = .pointer (some ⟨b,o,none⟩)/\(cs≠[]->safe B S m l b)/\(∀ j c,cs[j]? = some c->m.w.cell? ⟨b,o+j,none⟩=some (u j))/\(∀ j c,cs[j]? = some c->Rd m.w (safe B S m) c (u j)):=by
 cases dW h Z' Z' Z' with
 | rd h=>cases h
 | s9 _ b o u l h1 h2 h3=>exact ⟨b,o,u,l,rfl,h1,h2,h3⟩
theorem X7 {s t z off len:Nat} {v:Value} (h:CV B S m (.row s t z off len) v) : ∃ (ad:Option Addr) (cap:Nat),v = .slice ad len cap/\t<m.own.g7 s/\0<z/\len<=cap/\(0<len->ad.isSome=true) /\
  ∀ b,m.own.get s t=some b->b.a8=z/\((len=0/\cap=0) \/ ∃ g arr e,m.ν s t=some g/\ad=some ⟨g,off*z,none⟩/\m.w.heap[g]? = some (.cells arr e (0,0))/\(off+cap)*z<=arr.size):=by
 cases dW h Z' Z' Z' with
 | rd h=>cases h
 | row s t z off len ad cap ht bu pt ha h'=>exact ⟨ad,cap,rfl,ht,bu,pt,ha,h'⟩
theorem dY {l:Bool} {es:o_} {v:Value} (h:CV B S m (.sl l es) v):Rd m.w (safe B S m) (.sl l es) v:=by
 cases dW h Z' Z' Z' with
 | rd h=>exact h
theorem AgA (hm:BW B S w0 m) (hs:CZ B S m ρ a.eval) {x':AU} {off:Nat} (h:BI P num o.op (.j4 x' off)=true) {s t i j:Nat} (hx:ρ x' = .ptr s t i j):C4 B S w0 P o a m (.val (.ptr s t i (j+off))):=by
 obtain ⟨ty,x,f,fs,fd,inf,k6,h1,hu,hf,ho,hi,w4⟩:=Ug h;obtain ⟨ad,hv,ht,hb⟩:=Z8 (hx ▸ hs x x' h1);refine EU hm (u := .pointer (some (ad.add off))) ?_ (.ca (.one (.ptr s t i (j+off) _ ht λ b k8 => ?_)))
 ·simp [execOp,k6,hv,Instr.fieldAt,run_underlying hu,hf,Instr.sureAddr,fieldPlace,sizeOf,typeInfo,hi,w4,ho]
 ·obtain ⟨g,hg,rfl⟩:=hb b k8
  exact ⟨g,hg,by rw[IJ];simp;omega⟩
theorem Agz (hm:BW B S w0 m) (hs:CZ B S m ρ a.eval) {x':AU} {off:Nat} (h:BI P num o.op (.j4 x' off)=true) {cs:u_} (hx:ρ x' = .s9 cs):C4 B S w0 P o a m (.val (.s9 (cs.drop off))):=by
 obtain ⟨ty,x,f,fs,fd,inf,k6,h1,hu,hf,ho,hi,w4⟩:=Ug h;obtain ⟨b,ob,u,l,hv,hR,hc,hr⟩:=lL (hx ▸ hs x x' h1);refine EU hm (u := .pointer (some ⟨b,ob+off,none⟩)) ?_ (.ca (.one (.s9 _ b (ob+off) (λ j=>u (off+j)) l (λ k7=>hR (λ e=>k7 (by simp [e]))) (λ j c hj => ?_) (λ j c hj => ?_))))
 ·simp [execOp,k6,hv,Instr.fieldAt,run_underlying hu,hf,Instr.sureAddr,fieldPlace,sizeOf,typeInfo,hi,w4,ho,IJ]
 ·rw[Ra]at hj
  rw[cd];exact hc _ c hj
 ·rw[Ra]at hj
  exact hr _ c hj
theorem gX {agg:Bool} {cs:u_} {v:AV} (h:LB agg cs=some v) {vs:List Value} (hc:CL B S m cs vs):CV B S m v (if agg then .agg vs.toArray else vs.getD 0 undef)/\(agg=false->vs.length=1):=by
 unfold LB at h;cases agg with
 | true =>
  obtain rfl:AV.agg cs=v:=by simpa using h
  exact ⟨.ca (.agg cs vs hc),Z'⟩
 | false =>
  simp only[Ma,if_false]at h;split at h
  ·rename_i c
   obtain rfl:c=v:=by simpa using h
   obtain ⟨u,hu,w7⟩:=X6 hc (j:=0) (c:=c) rfl;refine ⟨?_,λ_=>by rw[<-hc.1];rfl⟩;simp only[Ma,if_false,Od,hu,pc];exact .ca (.one w7)
  ·cases h
theorem Amn (t:TypeId) (agg:Bool) (inf:TypeInfo) (jn : ∀ w,(isAgg t).run P w = .ok agg w) (hi:P.info? t=some inf) (vs:List Value) (off n:Nat) (hn:inf.size=n) (hle:off+n<=vs.length) (h1:agg=false->n=1) (w:World) :
  (Go.part t vs.toArray off).run P w = .ok (if agg then .agg ((vs.drop off).take n).toArray else ((vs.drop off).take n).getD 0 undef) w:=by
 unfold Go.part;rw[Sem.run_bind,jn w];cases agg with
 | true=>simp [sizeOf,typeInfo,hi,hn,List.extract_eq_take_drop]
 | false =>
  have j9:off<vs.length:=by have:=h1 rfl;omega
  simp [j9,h1 rfl]
theorem AgB (hm:BW B S w0 m) (hs:CZ B S m ρ a.eval) {x':AU} {off n:Nat} {agg:Bool} (h:BI P num o.op (.pn x' off n agg)=true) {cs ds:u_} {v:AV} (hx:ρ x' = .agg cs) (hp:part cs off n=some ds) (hv:LB agg ds=some v) :
  C4 B S w0 P o a m (.val v):=by
 obtain ⟨ty,x,f,fs,fd,inf,k6,h1,hu,hf,ho,hi,w4,jn,h0⟩:=Aka h;obtain ⟨vs,bf,l9⟩:=dV (hx ▸ hs x x' h1);unfold c6.part at hp;split at hp
 ·rename_i hle
  obtain rfl:(cs.drop off).take n=ds:=by simpa using hp
  obtain ⟨w5,iz⟩:=gX hv (Afs l9 off n);have hl:=l9.1;have Ac:agg=false->n=1:=λ e=>by have:=iz e;simp at this;omega
  refine EU hm ?_ w5;simp only[execOp,k6,Sem.run_bind,Instr.field,run_underlying hu,Result.andThen_ok,hf,bf,asAgg,Sem.run_pure,ho];rw[Amn fd.type agg inf jn hi vs off n w4 O' Ac];rfl
 ·cases hp
theorem AgC (hm:BW B S w0 m) (hs:CZ B S m ρ a.eval) {len a8:Nat} {x' i':AU} (h:BI P num o.op (.u6 (some len) a8 x' i')=true) {k:IntKind} {n:Int} {s t i0 j:Nat} (o5:ρ i' = .int k n) (hx:ρ x' = .ptr s t i0 j) (h0:0<=n) (hn:n<len) :
  C4 B S w0 P o a m (.val (.ptr s t i0 (j+n.toNat*a8))):=by
 obtain ⟨ty,x,i,e,inf,k6,h1,h2,hi,w4,z8⟩:=fW h;rcases z8 with ⟨ur,hl,hu,j9⟩|⟨hl,_⟩
 ·obtain rfl:len=ur:=by simpa using hl
  obtain ⟨ad,hv,ht,hb⟩:=Z8 (hx ▸ hs x x' h1);have zj:=IO (o5 ▸ hs i i' h2);refine EU hm (u := .pointer (some (ad.add (n.toNat*a8)))) ?_ (.ca (.one (.ptr s t i0 (j+n.toNat*a8) _ ht λ b k8 => ?_)))
  ·simp [execOp,k6,hv,zj,Instr.indexAt,asIntOf,run_underlying hu,Instr.sureAddr,sizeOf,typeInfo,hi,w4,h0,hn]
  ·obtain ⟨g,hg,rfl⟩:=hb b k8
   exact ⟨g,hg,by rw[IJ];simp;omega⟩
 ·cases hl
theorem AgD (hm:BW B S w0 m) (hs:CZ B S m ρ a.eval) {len a8:Nat} {x' i':AU} (h:BI P num o.op (.u6 (some len) a8 x' i')=true) {k:IntKind} {n:Int} {cs:u_} (o5:ρ i' = .int k n) (hx:ρ x' = .s9 cs) (h0:0<=n) (hn:n<len) :
  C4 B S w0 P o a m (.val (.s9 (cs.drop (n.toNat*a8)))):=by
 obtain ⟨ty,x,i,e,inf,k6,h1,h2,hi,w4,z8⟩:=fW h;rcases z8 with ⟨ur,hl,hu,j9⟩|⟨hl,_⟩
 ·obtain rfl:len=ur:=by simpa using hl
  obtain ⟨b,ob,u,l,hv,hR,hc,hr⟩:=lL (hx ▸ hs x x' h1);have zj:=IO (o5 ▸ hs i i' h2);refine EU hm (u := .pointer (some ⟨b,ob+n.toNat*a8,none⟩)) ?_ (.ca (.one (.s9 _ b (ob+n.toNat*a8) (λ j=>u (n.toNat*a8+j)) l (λ k7=>hR (λ e=>k7 (by simp [e]))) (λ j c hj => ?_) (λ j c hj => ?_))))
  ·simp [execOp,k6,hv,zj,Instr.indexAt,asIntOf,run_underlying hu,Instr.sureAddr,sizeOf,typeInfo,hi,w4,h0,hn,IJ]
  ·rw[Ra]at hj
   rw[cd];exact hc _ c hj
  ·rw[Ra]at hj
   exact hr _ c hj
 ·cases hl
theorem Us (ty e:TypeId) (inf:TypeInfo) (hu:P.underlying ty=some (.slice e)) (hi:P.info? e=some inf) (ad:Addr) (len cap:Nat) (k:IntKind) (n:Int) (h0:0<=n) (hn:n<len) (w:World) :
  (Instr.indexAt ty (.slice (some ad) len cap) (.int k n)).run P w = .ok (.pointer (some (ad.add (n.toNat*inf.size)))) w:=by
 simp [Instr.indexAt,asIntOf,run_underlying hu,sizeOf,typeInfo,hi,h0,hn]
theorem AgE (hm:BW B S w0 m) (hs:CZ B S m ρ a.eval) {a8:Nat} {x' i':AU} (h:BI P num o.op (.u6 none a8 x' i')=true) {k:IntKind} {n:Int} {s t z off len:Nat} (o5:ρ i' = .int k n) (hx:ρ x' = .row s t z off len) (h0:0<=n) (hn:n<len) (hz:z=a8) :
  C4 B S w0 P o a m (.val (.ptr s t (off+n.toNat) 0)):=by
 obtain ⟨ty,x,i,e,inf,k6,h1,h2,hi,w4,z8⟩:=fW h;rcases z8 with ⟨_,hl,_⟩|⟨_,hu,_⟩
 ·cases hl
 ·obtain ⟨ad,cap,hv,ht,bu,pt,ha,hb⟩:=X7 (hx ▸ hs x x' h1)
  have zj:=IO (o5 ▸ hs i i' h2);obtain ⟨Et,rfl⟩:=Fa.1 (ha O');refine EU hm (u := .pointer (some (Et.add (n.toNat*a8)))) ?_ (.ca (.one (.ptr s t (off+n.toNat) 0 _ ht λ b k8 => ?_)))
  ·simp only[execOp,k6,hv,zj,Sem.run_bind]
   rw[Us ty e inf hu hi Et len cap k n h0 hn,w4];rfl
  ·obtain ⟨sz,z8⟩:=hb b k8
   rcases z8 with ⟨jf,_⟩|⟨g,arr,e',hg,mf,_,_⟩
   ·omega
   ·obtain rfl:Et=⟨g,off*z,none⟩:=by simpa using mf
    exact ⟨g,hg,by rw[IJ,sz,<-hz,Ea];rfl⟩
theorem AgF (hm:BW B S w0 m) (hs:CZ B S m ρ a.eval) {a8:Nat} {x' i':AU} (h:BI P num o.op (.u6 none a8 x' i')=true) {k:IntKind} {n:Int} {l:Bool} {es:o_} {cs:u_} (o5:ρ i' = .int k n) (hx:ρ x' = .sl l es) (h0:0<=n) (hn:es[n.toNat]? = some cs) (hz:cs.length=a8) :
  C4 B S w0 P o a m (.val (.s9 cs)):=by
 obtain ⟨ty,x,i,e,inf,k6,h1,h2,hi,w4,z8⟩:=fW h;rcases z8 with ⟨_,hl,_⟩|⟨_,hu,_⟩
 ·cases hl
 ·have ko:=dY (hx ▸ hs x x' h1)
  have zj:=IO (o5 ▸ hs i i' h2);have j9:n.toNat<es.length:=(zS hn).1;generalize bf:a.eval x=v at ko;cases ko with
  | ka=>simp at j9
  | sl _ _ b ob w3 cap u k7 hp hR ae gu hc hr =>
   have Jr:w3=a8:=by
    rw[<-hz];exact (gu cs (zM hn)).symm
   subst Jr;refine EU hm (u := .pointer (some ⟨b,ob+n.toNat*w3,none⟩)) ?_ (.ca (.one (.s9 _ b (ob+n.toNat*w3) (u n.toNat) l (λ_=>hR) (λ j c hj => ?_) (λ j c hj=>hr _ cs hn j c hj))))
   ·simp only[execOp,k6,bf,zj,Sem.run_bind]
    rw[Us ty e inf hu hi ⟨b,ob,none⟩ es.length cap k n h0 O',w4,IJ];rfl
   ·rw[cd]
    exact hc _ cs hn j c hj
end
end Go.c6

namespace Go.c6
open Go.RowKit
section
variable {B:Nat} {S:Nat->Prop} {w0:World} {m:M}
variable {P:Program} {num:Nat->Nat} {o:Oper} {a:Act} {ρ:AU->AV}
theorem qB (t:TypeId) (agg:Bool) (n:Nat) (jn : ∀ w,(isAgg t).run P w = .ok agg w) (hn:if agg then ∃ i,P.info? t=some i/\i.size=n else n=1) (ad:Addr) (vs:List Value) (hl:vs.length=n) (w:World)
  (hc : ∀ q v,vs[q]? = some v->w.cell? (ad.add q)=some v):(Instr.loadAt t (.pointer (some ad))).run P w = .ok (if agg then .agg vs.toArray else vs.getD 0 undef) w:=by
 unfold Instr.loadAt loadVar;simp only[Instr.sureAddr,Sem.run_bind,Sem.run_pure,Result.andThen_ok,jn w];cases agg with
 | true =>
  simp only[if_true]at hn;obtain ⟨i,hi,hs⟩:=hn;have:=run_loadCells_list (P:=P) w ad vs hc
  simp [sizeOf,typeInfo,hi,hs,<-hl,this]
 | false =>
  simp only[Ma,if_false]at hn ⊢;have j9:0<vs.length:=O'
  have h0:=hc 0 vs[0] (zE j9);have Ab:w.cell? ad=some vs[0]:=by simpa [Addr.add] using h0
  simp [load,Sem.run,Ab,j9]
theorem Wx (hm:BW B S w0 m) {s t i j n:Nat} {cs:u_} (h:m.own.rh s t i j n=some cs) : ∃ b g arr e,m.own.get s t=some b/\(0<n->m.ν s t=some g/\m.w.heap[g]? = some (.cells arr e (0,0))) /\
  ∃ vs:List Value,vs.length=n/\CL B S m cs vs /\ ∀ q v,vs[q]? = some v->arr[i*b.a8+j+q]? = some v:=by
 unfold AJ.rh at h;cases hb:m.own.get s t with
 | none=>simp [hb]at h
 | some b =>
  simp only[hb]at h;cases he:b.es[i]? with
  | none=>simp [he]at h
  | some ds =>
   simp only[he,part]at h;split at h
   ·rename_i hle
    obtain rfl:(ds.drop j).take n=cs:=by simpa using h
    obtain ⟨hz,er⟩:=hm.c9 s t b hb;cases hν:m.ν s t with
    | none =>
     rw[hν]at er;rw[er]at he;simp at he
    | some g =>
     rw[hν]at er;obtain ⟨hB,arr,e,hh,w7⟩:=er;have w4 : ∀ q,q<n -> ∃ u,arr[i*b.a8+j+q]? = some u:=λ q hq=>by
      have j9:j+q<ds.length:=O'
      obtain ⟨u,hu,_⟩:=w7 i ds he (j+q) ds[j+q] (zE j9);exact ⟨u,by rw[<-hu];congr 1;omega⟩
     refine ⟨b,g,arr,e,rfl,λ_=>⟨rfl,hh⟩,(arr.toList.drop (i*b.a8+j)).take n,?_,⟨?_,?_⟩,?_⟩
     ·rw[nb,zd]
      rcases ub n with h0|h0
      ·omega
      ·obtain ⟨u,hu⟩:=w4 (n-1) O'
       have:=(sa.1 hu).1
       simp;omega
     ·rw[nb,nb,zd,zd]
      rcases ub n with h0|h0
      ·omega
      ·obtain ⟨u,hu⟩:=w4 (n-1) O'
       have:=(sa.1 hu).1
       simp;omega
     ·intro q c v hq hv
      rw[da]at hq hv;split at hq
      ·rename_i Iv
       rw[if_pos Iv]at hv;rw[Ra]at hq hv;obtain ⟨u,hu,hc⟩:=w7 i ds he (j+q) c hq;have:some u=some v:=by
        rw[<-hu,<-hv];simp only[Lb];congr 1;omega
       obtain rfl:u=v:=by simpa using this
       exact hc
      ·cases hq
     ·intro q v hv
      rw[da]at hv;split at hv
      ·rw[Ra]at hv
       simpa using hv
      ·cases hv
   ·cases h
theorem dO {w:World} {g p:Nat} {arr:Array Value} {e:TypeId} (h:w.heap[g]? = some (.cells arr e (0,0))):w.cell? ⟨g,p,none⟩=arr[p]? := by
 simp [World.cell?,h]
theorem AgG (hm:BW B S w0 m) (hs:CZ B S m ρ a.eval) {agg:Bool} {n:Nat} {x':AU} (h:BI P num o.op (.ld agg n x')=true) {s t i j:Nat} {cs:u_} {v:AV} (hx:ρ x' = .ptr s t i j) (hl:m.own.rh s t i j n=some cs) (hv:LB agg cs=some v) :
  C4 B S w0 P o a m (.val v):=by
 obtain ⟨ty,x,k6,h1,jn,hn⟩:=Uh h;obtain ⟨ad,bf,ht,hb⟩:=Z8 (hx ▸ hs x x' h1);obtain ⟨b,g,arr,e,n6,hg,vs,gd,l9,ik⟩:=Wx hm hl;obtain ⟨w5,_⟩:=gX hv l9;refine EU hm ?_ w5;simp only[execOp,k6,Sem.run_bind,bf];rw[qB ty agg n jn hn ad vs gd m.w (λ q u hq => ?_)]
 ·rfl
 ·have j9:q<vs.length:=(zS hq).1
  obtain ⟨Ak,ke⟩:=hg O';obtain ⟨g',fk,rfl⟩:=hb b n6;obtain rfl:g=g':=by rw[Ak]at fk;simpa using fk
  rw[IJ,dO ke];exact ik q u hq
theorem vP (hm:BW B S w0 m) (hs:CZ B S m ρ a.eval) {agg:Bool} {n:Nat} {x':AU} (h:BI P num o.op (.ld agg n x')=true) {cs ds:u_} {v:AV} (hx:ρ x' = .s9 cs) (hl:part cs 0 n=some ds) (hv:LB agg ds=some v) :
  C4 B S w0 P o a m (.val v):=by
 obtain ⟨ty,x,k6,h1,jn,hn⟩:=Uh h;obtain ⟨b,ob,u,l,bf,hR,hc,hr⟩:=lL (hx ▸ hs x x' h1);unfold c6.part at hl;split at hl
 ·rename_i hle
  obtain rfl:(cs.drop 0).take n=ds:=by simpa using hl
  have l9:CL B S m ((cs.drop 0).take n) ((Kc n).map u):=by
   refine ⟨by simp;omega,λ q c v' hq ij => ?_⟩;simp only[vd,da]at hq;split at hq
   ·rename_i Iv
    simp [Iv]at ij;subst ij;exact .rd (hr q c hq)
   ·cases hq
  obtain ⟨w5,_⟩:=gX hv l9;refine EU hm ?_ w5;simp only[execOp,k6,Sem.run_bind,bf];rw[qB ty agg n jn hn ⟨b,ob,none⟩ ((Kc n).map u) Z' m.w (λ q w' hq => ?_)]
  ·rfl
  ·have Iv:q<n:=by have:=(zS hq).1;simpa using this
   simp [Iv]at hq;subst hq;rw[IJ];exact hc q cs[q] (zE O')
 ·cases hl
theorem qR {α:Type} (l:List α) (off:Nat) (vs:List α) (h:off+vs.length<=l.length) (q:Nat):(l.take off++vs++l.drop (off+vs.length))[q]? = if q<off then l[q]? else if q<off+vs.length then vs[q-off]? else l[q]? := by
 rw[Ic];by_cases h1:q<off
 ·rw[if_pos h1,Qa G',da,if_pos h1]
 ·rw[if_neg h1,Ka G']
  have e1:(l.take off).length=off:=by simp;omega
  rw[e1];by_cases h2:q<off+vs.length
  ·rw[if_pos h2,Qa O']
  ·rw[if_neg h2,Ka O',Ra]
   congr 1;omega
theorem tL (hm:BW B S w0 m) {g:Nat} (hB:B<=g) (arr:Array Value):Below B w0 (m.w.setRow g arr) :=
 hm.below.trans ⟨rfl,rfl,rfl,Z',λ k hk=>setRow_other _ _ _ _ O'⟩
theorem vU (hm:BW B S w0 m) (hs:CZ B S m ρ a.eval) {n:Nat} {x' v':AU} (h:BI P num o.op (.st n x' v')=true) {s t i j:Nat} {vs:u_} {m4:AJ} (hx:ρ x' = .ptr s t i j) (hv:cellsOf (ρ v')=some vs) (hn:vs.length=n) (g9:m.own.na s t i j vs=some m4) :
  C4 B S w0 P o a m (.dw (.c5 []) m4):=by
 obtain ⟨ty,x,v,inf,k6,h1,h2,hi,w4⟩:=Akj h;obtain ⟨ad,bf,ht,hb⟩:=Z8 (hx ▸ hs x x' h1);have l9:=dX (hs v v' h2) hv;unfold AJ.na at g9;cases n6:m.own.get s t with
 | none=>simp [n6]at g9
 | some b =>
  simp only[n6]at g9;cases he:b.es[i]? with
  | none=>simp [he]at g9
  | some cs =>
   simp only[he]at g9;split at g9
   ·rename_i hle
    obtain rfl:=oa g9;obtain ⟨hz,er⟩:=hm.c9 s t b n6;obtain ⟨g,hg,rfl⟩:=hb b n6;rw[hg]at er;obtain ⟨hB,arr,e,hh,w7⟩:=er;have Nv:cs.length=b.a8:=hz cs (zM he);have hlen:(a.eval v).cells.toList.length=vs.length:=l9.1.symm;have w9:i<b.es.length:=(zS he).1;have Eb:i*b.a8+j+vs.length<=arr.size:=by
     rcases ub vs.length with h0|h0
     ·rcases ub j with hj0|hj0
      ·rw[h0,hj0]
       rcases ub i with td|td
       ·rw[td];omega
       ·rcases ub b.a8 with bu|bu
        ·rw[bu];omega
        ·have hi1:i-1<b.es.length:=O'
         have iv:(b.es[i-1]).length=b.a8:=hz _ (Kb hi1);obtain ⟨u,hu,_⟩:=w7 (i-1) _ (zE hi1) (b.a8-1) _ (zE O');have:=(sa.1 hu).1
         have e1:(i-1)*b.a8+b.a8=i*b.a8:=by
          rw[<-Rb];congr 1;omega
         omega
      ·obtain ⟨u,hu,_⟩:=w7 i cs he (j-1) cs[j-1] (zE O')
       have:=(sa.1 hu).1
       omega
     ·obtain ⟨u,hu,_⟩:=w7 i cs he (j+vs.length-1) cs[j+vs.length-1] (zE O')
      have:=(sa.1 hu).1
      omega
    have iz:=Afr l9;have xx:=run_storeCells_at (P:=P) g (i*b.a8+j) e (a.eval v).cells.toList 0 arr m.w hh (by rw[hlen];omega) iz;generalize oc:(arr.toList.take (i*b.a8+j+0)++(a.eval v).cells.toList++arr.toList.drop (i*b.a8+j+0+(a.eval v).cells.toList.length)).toArray=v9 at xx;have Bn : ∀ p,v9[p]? = if p<i*b.a8+j then arr[p]? else if p<i*b.a8+j+vs.length then (a.eval v).cells.toList[p-(i*b.a8+j)]? else arr[p]? := λ p=>by
     rw[<-oc];simp only[Dc,Jd];rw[qR _ _ _ (by rw[hlen];simpa using Eb),hlen];simp only[Lb]
    have qu:v9.size=arr.size:=by
     rw[<-oc];simp [hlen];have:=hlen
     simp at this;omega
    obtain ⟨k1,k2⟩:=Ans hm s t b ⟨b.a8,b.es.set i (splice cs j vs)⟩ n6 g hg arr v9 e hh rfl (λ y hy=>by
      rcases List.mem_or_eq_of_mem_set hy with hy|hy
      ·exact hz y hy
      ·rw[hy,<-Nv];simp [splice];omega) qu
     (λ i' fg o5 q c hq=>by
      show ∃ u,v9[i'*b.a8+q]? = some u/\_;change (b.es.set i (splice cs j vs))[i']? = some fg at o5;by_cases hii:i'=i
      ·subst hii
       rw[List.getElem?_set_self w9]at o5;obtain rfl:splice cs j vs=fg:=by simpa using o5
       unfold splice at hq;rw[qR _ _ _ hle]at hq;rw[Bn];by_cases zl:q<j
       ·rw[if_pos zl]at hq
        rw[if_pos O'];exact w7 i' cs he q c hq
       ·rw[if_neg zl]at hq
        rw[if_neg O'];by_cases xm:q<j+vs.length
        ·rw[if_pos xm]at hq
         rw[if_pos O'];obtain ⟨u,hu,gi⟩:=X6 l9 hq;exact ⟨u,by rw[<-hu];congr 1;omega,gi⟩
        ·rw[if_neg xm]at hq
         rw[if_neg O'];exact w7 i' cs he q c hq
      ·rw[List.getElem?_set_ne O']at o5
       have xn:q<b.a8:=by
        rw[<-hz fg (zM o5)];exact (zS hq).1
       obtain ⟨u,hu,gi⟩:=w7 i' fg o5 q c hq;refine ⟨u,?_,gi⟩;rw[Bn,<-hu];rcases xe hii with j9|ud
       ·have:(i'+1)*b.a8<=i*b.a8:=zR _ j9
        rw[Rb]at this;rw[if_pos O']
       ·have:(i+1)*b.a8<=i'*b.a8:=zR _ ud
        rw[Rb]at this;rw[if_neg O',if_neg O'])
     (m.w.setRow g v9) (tL hm hB v9) Z' (λ k hk=>setRow_other _ _ _ _ hk) (setRow_heap _ _ _ _ _ _ hh)
    intro K Q hK;refine AnJ (w':=m.w.setRow g v9) ?_ (hK undef ⟨m.ν,_,m.w.setRow g v9⟩ rfl k1 k2 Sa);have Qu:(a.eval v).cells.size=inf.size:=by rw[w4,<-hn,<-hlen];simp
    simp only[execOp,k6,bf,Instr.storeAt,storeVar,Instr.sureAddr,Sem.run_bind,Sem.run_pure,Result.andThen_ok,sizeOf,typeInfo,run_program,hi];rw[if_neg (by simpa using Qu)];simp only[Sem.run_bind,Sem.run_pure,Result.andThen_ok,xx]
   ·cases g9
theorem AgI (hm:BW B S w0 m) (hs:CZ B S m ρ a.eval) {s a8 bytes:Nat} {zero:u_} {l' c':AU} (h:BI P num o.op (.mk s a8 bytes zero l' c')=true) {kl kc:IntKind} {l c:Int} (hl:ρ l' = .int kl l) (hc:ρ c' = .int kc c) (h0:0<=l) (pt:l<=c) (hb:c*bytes<=DX) (Eu:c<=9223372036854775807) (hz:zero.length=a8) :
  C4 B S w0 P o a m (.new s ⟨a8,List.replicate l.toNat zero⟩ (λ t => .row s t a8 0 l.toNat)):=by
 obtain ⟨ty,lx,cx,e,inf,z,k6,h1,h2,hu,hi,w4,uc,bu,gu,k7⟩:=Akd h;have el:=IO (hl ▸ hs lx l' h1);have ec:=IO (hc ▸ hs cx c' h2);have l9:CL B S m zero z.cells.toList:=YD gu;have hzs:z.cells.size=a8:=by rw[<-hz,l9.1];simp
 refine vT hm s a8 l.toNat c.toNat _ (madeCells z.cells (c.toNat*inf.size)) e (Mb k7) O' (by rw[size_madeCells,w4];exact Na _) (λ x hx=>by rw[(List.mem_replicate.1 hx).2,hz]) (λ i cs o5 j c1 hj => ?_) ?_
 ·rw[List.getElem?_replicate]at o5
  split at o5
  ·rename_i w9
   obtain rfl:zero=cs:=by simpa using o5
   obtain ⟨u,mr,gi⟩:=X6 l9 hj;refine ⟨u,?_,gi⟩;have db:j<a8:=by rw[<-hz];exact (zS hj).1
   have j9:i*a8+j<c.toNat*inf.size:=by
    rw[w4];have h3:(i+1)*a8<=c.toNat*a8:=zR _ O';rw[Rb]at h3;omega
   have Pq:(i*a8+j)%z.cells.size=j:=by rw[hzs,Kd,dd,re db]
   have nn:z.cells[j]? = some u:=by simpa using mr
   have hjs:j<z.cells.size:=(sa.1 nn).1;have jz:z.cells[j]=u:=(sa.1 nn).2;simp [madeCells,j9,Pq,hjs,jz]
  ·cases o5
 ·have:=run_make (P:=P) m.w ty e inf z hu hi bu kl kc l c h0 pt (by rw[uc,Int.mul_comm];simp only[DX]at hb;omega) Eu
  simp only[execOp,k6,el,ec,Sem.run_bind,this,Result.andThen_ok,Sem.run_pure]
theorem Agy (hm:BW B S w0 m) (hs:CZ B S m ρ a.eval) {x':AU} {i:Nat} (h:BI P num o.op (.ext x' i)=true) {vs:u_} {v:AV} (hx:ρ x' = .c5 vs) (hv:vs[i]? = some v):C4 B S w0 P o a m (.val v):=by
 obtain ⟨x,k6,h1⟩:=Aj9 h;obtain ⟨us,bf,hl,hc⟩:=lN (hx ▸ hs x x' h1);have j9:i<us.length:=by rw[<-hl];exact (zS hv).1
 refine EU hm (u:=us[i]) ?_ (.ca (hc i v us[i] hv (zE j9)));simp [execOp,k6,bf,Instr.extract,j9]
theorem AgH (hm:BW B S w0 m) (hs:CZ B S m ρ a.eval) {x':AU} (h:BI P num o.op (.len x')=true) {n:Nat} (hx:QZ (ρ x')=some n):C4 B S w0 P o a m (.val (.int .i64 n)):=by
 obtain ⟨x,t,e,k6,h1,hu⟩:=Akc h;have w5:=hs x x' h1;obtain ⟨ad,cap,bf⟩ : ∃ ad cap,a.eval x = .slice ad n cap:=by
  generalize ρ x'=av at *;cases av with
  | sl l es =>
   have hr:=dY w5;simp only[QZ,za]at hx;subst hx;generalize a.eval x=v at *;cases hr with
   | ka=>exact ⟨_,_,rfl⟩
   | sl=>exact ⟨_,_,rfl⟩
  | row s t z off len =>
   obtain ⟨ad,cap,hv,_⟩:=X7 w5;simp only[QZ,za]at hx;subst hx;exact ⟨ad,cap,hv⟩
  | nil =>
   simp only[QZ,za]at hx;subst hx;exact ⟨_,_,SC w5⟩
  | _=>simp [QZ]at hx
 refine EU hm (u := .int .i64 n) ?_ (Q4 _ _);simp [execOp,k6,resolve,invoke,builtin,bf,Builtin.len_,run_underlying hu,goInt]
theorem Agw (hm:BW B S w0 m) (hs:CZ B S m ρ a.eval) {x':AU} (h:BI P num o.op (.fx x')=true) (hx:ρ x' = .nil):C4 B S w0 P o a m (.val (.int .i64 0)):=by
 obtain ⟨x,t,e,k6,h1,hu⟩:=Aj7 h;have bf:=SC (hx ▸ hs x x' h1);refine EU hm (u := .int .i64 0) ?_ (Q4 _ _);simp [execOp,k6,resolve,invoke,builtin,bf,Builtin.cap_,run_underlying hu,goInt]
theorem WG (hs:CZ B S m ρ a.eval) : ∀ {xs:List Operand} {ys:List AU},EV xs ys=true->xs.length=ys.length /\ ∀ (j:Nat) (x:Operand) (y:AU),xs[j]? = some x->ys[j]? = some y->CV B S m (ρ y) (a.eval x)
 | [],[],_=>⟨rfl,λ j x y h=>by simp at h⟩
 | x::r,y::l,h=>by
  simp only[EV,ya]at h;obtain ⟨ih1,lz⟩:=WG hs h.2;refine ⟨by simp [ih1],λ j x' y' hx hy => ?_⟩;cases j with
  | zero=>simp at hx hy;subst hx hy;exact hs _ _ h.1
  | succ j=>exact lz j x' y' (by simpa using hx) (by simpa using hy)
 | [],_::_,h=>by simp [EV]at h
 | _::_,[],h=>by simp [EV]at h
theorem Ut (mx:Bool) (hs:CZ B S m ρ a.eval) (w:World) : ∀ (xs:List Operand) (ys:List AU) (v:AV) (u:Value) (r:AV),EV xs ys=true->CV B S m v u->L6 mx v (ys.map ρ)=some r->(∃ k n,v = .int k n) -> ∃ k n,r = .int k n /\
  ((xs.map a.eval).foldlM (if mx then Builtin.max2 else Builtin.min2) u).run P w = .ok (.int k n) w
 | [],[],v,u,r,_,hc,hm,⟨k,n,hv⟩=>by
  simp only[List.map_nil,L6,za]at hm;subst hm hv;obtain rfl:=IO hc;exact ⟨k,n,rfl,Z'⟩
 | x::xr,y::yr,v,u,r,he,hc,hm,⟨k,n,hv⟩=>by
  simp only[EV,ya]at he;simp only[Pb,L6]at hm;have hx:=hs x y he.1;subst hv;obtain rfl:=IO hc;cases hy:ρ y with
  | int k' n' =>
   rw[hy]at hx hm;have hxe:=IO hx;simp only[Q5]at hm;obtain ⟨k2,n2,rfl,h2⟩:=Ut mx hs w xr yr _ (.int k (if mx then (if n'>n then n' else n) else (if n'<n then n' else n))) r he.2 (Q4 _ _) hm ⟨_,_,rfl⟩;refine ⟨k2,n2,rfl,?_⟩;simp only[Pb,List.foldlM_cons,Sem.run_bind,hxe];cases mx
   ·simpa [Builtin.min2] using h2
   ·simpa [Builtin.max2] using h2
  | _=>rw[hy]at hm;simp [Q5]at hm
 | [],_::_,_,_,_,he,_,_,_=>by simp [EV]at he
 | _::_,[],_,_,_,he,_,_,_=>by simp [EV]at he
theorem AgL (hm:BW B S w0 m) (hs:CZ B S m ρ a.eval) {mx:Bool} {n0:List AU} (h:BI P num o.op (.mm mx n0)=true) {v r:AV} {l:u_} (hx:n0.map ρ=v::l) (hv:L6 mx v l=some r) (hi : ∃ k n,v = .int k n):C4 B S w0 P o a m (.val r):=by
 obtain ⟨xs,ts,k6,he⟩:=Ui h;cases n0 with
 | nil=>simp at hx
 | cons y yr =>
  simp only[Pb,xd]at hx;obtain ⟨rfl,rfl⟩:=hx;obtain ⟨xl⟩:=xs;cases xl with
  | nil=>simp [EV]at he
  | cons x xr =>
   simp only[EV,ya]at he;obtain ⟨k,n,rfl,o8⟩:=Ut (P:=P) mx hs m.w xr yr (ρ y) (a.eval x) r he.2 (hs x y he.1) hv hi;refine EU hm (u := .int k n) ?_ (Q4 _ _);cases mx
   ·simp only[execOp,k6,resolve,invoke,builtin,Builtin.min_,Sem.run_bind,Sem.run_pure,Result.andThen_ok]at o8 ⊢
    simp at o8 ⊢;rw[o8];rfl
   ·simp only[execOp,k6,resolve,invoke,builtin,Builtin.max_,Sem.run_bind,Sem.run_pure,Result.andThen_ok]at o8 ⊢
    simp at o8 ⊢;rw[o8];rfl
end
end Go.c6

namespace Go.c6
open Go.RowKit
section
variable {B:Nat} {S:Nat->Prop} {w0:World} {m:M}
variable {P:Program} {num:Nat->Nat} {o:Oper} {a:Act} {ρ:AU->AV}
def IL (ρ:AU->AV) (d:Nat):Option AU->Option Int
 | none=>some d
 | some y=>match ρ y with | .int _ n=>some n|_=>none
theorem iS (ty e:TypeId) (inf:TypeInfo) (hu:P.underlying ty=some (.slice e)) (hi:P.info? e=some inf) (hs:CZ B S m ρ a.eval) {lo o5:Option Operand} {qe Hu:Option AU} (px:OM lo qe=true) (Kr:OM o5 Hu=true)
  (ad:Option Addr) (len cap:Nat) (l h:Int) (hl:IL ρ 0 qe=some l) (hh:IL ρ len Hu=some h) (h0:0<=l) (hlh:l<=h) (hhl:h<=len) (pt:len<=cap) (w:World) :
  (Instr.sliceAt ty (.slice ad len cap) (lo.map a.eval) (o5.map a.eval) none).run P w = .ok (.slice (if cap=l.toNat then ad else ad.map (·.add (l.toNat*inf.size))) (h.toNat-l.toNat) (cap-l.toNat)) w:=by
 have zj : ∀ {x:Option Operand} {y:Option AU} {d:Nat} {n:Int},OM x y=true->IL ρ d y=some n->(x=none/\y=none/\n=d) \/ ∃ x' k,x=some x'/\a.eval x' = .int k n:=by
  intro x y d n vk hb;cases x with
  | none=>cases y with
   | none=>simp [IL]at hb;exact .inl ⟨rfl,rfl,hb.symm⟩
   | some y=>simp [OM]at vk
  | some x=>cases y with
   | none=>simp [OM]at vk
   | some y =>
    simp only[OM]at vk;simp only[IL]at hb;cases hy:ρ y with
    | int k q =>
     rw[hy]at hb;simp only[za]at hb;subst hb;exact .inr ⟨x,k,rfl,IO (hy ▸ hs x y vk)⟩
    | _=>rw[hy]at hb;cases hb
 have Bo:h<=(cap:Int):=O'
 unfold Instr.sliceAt Instr.slice Instr.sliceBounds;rcases zj px hl with ⟨rfl,_,rfl⟩|⟨x1,k1,rfl,e1⟩<;>rcases zj Kr hh with ⟨rfl,_,rfl⟩|⟨x2,k2,rfl,e2⟩
 ·simp [run_underlying hu,sizeOf,typeInfo,hi]
 ·have qk:=run_sliceBound (P:=P) w k2 h cap .sliceAcap O' Bo
  simp [run_underlying hu,sizeOf,typeInfo,hi,e2,qk]
 ·have u4:=run_sliceBound (P:=P) w k1 l len .sliceB h0 O'
  simp [run_underlying hu,sizeOf,typeInfo,hi,e1,u4]
 ·have qk:=run_sliceBound (P:=P) w k2 h cap .sliceAcap O' Bo
  have u4:=run_sliceBound (P:=P) w k1 l h.toNat .sliceB h0 O';simp [run_underlying hu,sizeOf,typeInfo,hi,e1,e2,qk,u4]
theorem AgP (hm:BW B S w0 m) (hs:CZ B S m ρ a.eval) {a8:Nat} {x':AU} {qe o5:Option AU} (h:BI P num o.op (.di a8 x' qe o5)=true) (hx:ρ x' = .nil) (hl:IL ρ 0 qe=some 0) (hh:IL ρ 0 o5=some 0):C4 B S w0 P o a m (.val .nil):=by
 obtain ⟨ty,x,lo,ue,e,inf,k6,h1,h2,h3,hu,hi,w4,k7⟩:=oI h;have bf:=SC (hx ▸ hs x x' h1);have o8:=iS ty e inf hu hi hs h2 h3 none 0 0 0 0 hl hh O' O' O' O' m.w;refine EU hm (u := .slice none 0 0) ?_ (.ca (.one .nil));simp only[execOp,k6,bf,Sem.run_bind,Jb,o8];rfl
theorem AgQ (hm:BW B S w0 m) (hs:CZ B S m ρ a.eval) {a8:Nat} {x':AU} {qe o5:Option AU} (h:BI P num o.op (.di a8 x' qe o5)=true) {s t z off len:Nat} {l u:Int} (hx:ρ x' = .row s t z off len) (hl:IL ρ 0 qe=some l) (hh:IL ρ len o5=some u) (h0:0<=l) (Kw:l<=u) (jz:u<=len) (hz:z=a8) :
  C4 B S w0 P o a m (.val (.row s t z (off+l.toNat) (u.toNat-l.toNat))):=by
 obtain ⟨ty,x,lo,ue,e,inf,k6,h1,h2,h3,hu,hi,w4,k7⟩:=oI h;obtain ⟨ad,cap,bf,ht,bu,pt,ha,hb⟩:=X7 (hx ▸ hs x x' h1);have o8:=iS ty e inf hu hi hs h2 h3 ad len cap l u hl hh h0 Kw jz pt m.w;refine EU hm ?_ (.ca (.one (.row s t z (off+l.toNat) (u.toNat-l.toNat) (if cap=l.toNat then ad else ad.map (·.add (l.toNat*inf.size))) (cap-l.toNat) ht bu O' (λ hp => ?_) λ b k8 => ?_)))
 ·simp only[execOp,k6,bf,Sem.run_bind,Jb,o8]
  rfl
 ·rw[if_neg O']
  obtain ⟨Et,rfl⟩:=Fa.1 (ha O');rfl
 ·obtain ⟨sz,z8⟩:=hb b k8
  refine ⟨sz,?_⟩;rcases z8 with ⟨jf,ib⟩|⟨g,arr,e',hg,mf,Kq,hle⟩
  ·exact .inl ⟨O',O'⟩
  ·by_cases hc:cap=l.toNat
   ·exact .inl ⟨O',O'⟩
   ·refine .inr ⟨g,arr,e',hg,?_,Kq,?_⟩
    ·rw[if_neg hc,mf,w4,hz]
     simp only[Pa,IJ,Ea]
    ·rw[show off+l.toNat+(cap-l.toNat)=off+cap by omega]
     exact hle
theorem AgR (hm:BW B S w0 m) (hs:CZ B S m ρ a.eval) {a8:Nat} {x':AU} {qe o5:Option AU} (h:BI P num o.op (.di a8 x' qe o5)=true) {lt:Bool} {es:o_} {l u:Int} (hx:ρ x' = .sl lt es) (hl:IL ρ 0 qe=some l) (hh:IL ρ es.length o5=some u) (h0:0<=l) (Kw:l<=u) (jz:u<=es.length) (hz : ∀ e∈es,e.length=a8) :
  C4 B S w0 P o a m (.val (.sl lt ((es.take u.toNat).drop l.toNat))):=by
 obtain ⟨ty,x,lo,ue,e,inf,k6,h1,h2,h3,hu,hi,w4,k7⟩:=oI h;have ko:=dY (hx ▸ hs x x' h1);generalize bf:a.eval x=v at ko;cases ko with
 | ka _ ad cap =>
  have o8:=iS ty e inf hu hi hs h2 h3 ad 0 cap l u hl hh h0 Kw (by simpa using jz) O' m.w;simp only[List.length_nil]at jz;rw[show (([]:o_).take u.toNat).drop l.toNat=[] by simp];refine EU hm (u := .slice (if cap=l.toNat then ad else ad.map (·.add (l.toNat*inf.size))) 0 (cap-l.toNat)) ?_ (.ca (.one (.rd (.ka lt _ _))));simp only[execOp,k6,bf,Sem.run_bind,Jb,o8];rw[show u.toNat-l.toNat=0 by omega];rfl
 | sl _ _ b ob w3 cap uu xh hp hR ae gu hc hr =>
  have o8:=iS ty e inf hu hi hs h2 h3 (some ⟨b,ob,none⟩) es.length cap l u hl hh h0 Kw jz ae m.w;have Jr:w3=a8:=by
   cases es with
   | nil=>exact absurd rfl xh
   | cons q r=>rw[<-gu q Z',hz q Z']
  subst Jr;by_cases bu:u.toNat-l.toNat=0
  ·have:(es.take u.toNat).drop l.toNat=[]:=by
    apply ea;simp;omega
   rw[this];refine EU hm (u := .slice (if cap=l.toNat then some ⟨b,ob,none⟩ else (some (⟨b,ob,none⟩:Addr)).map (·.add (l.toNat*inf.size))) 0 (cap-l.toNat)) ?_ (.ca (.one (.rd (Rd.ka lt _ _))));simp only[execOp,k6,bf,Sem.run_bind,Jb,o8];rw[bu];rfl
  ·have hlen:((es.take u.toNat).drop l.toNat).length=u.toNat-l.toNat:=by simp;omega
   have n6 : ∀ i,i<u.toNat-l.toNat->((es.take u.toNat).drop l.toNat)[i]? = es[l.toNat+i]? := λ i o5=>by
    rw[Ra,da,if_pos O']
   refine EU hm (u := .slice (some ⟨b,ob+l.toNat*w3,none⟩) ((es.take u.toNat).drop l.toNat).length (cap-l.toNat)) ?_ (.ca (.one (.rd (.sl lt _ b (ob+l.toNat*w3) w3 (cap-l.toNat) (λ i j=>uu (l.toNat+i) j) (λ e=>bu (by rw[<-hlen,e];rfl)) hp hR (by rw[hlen];omega) (λ q hq=>gu q (Ib (Hd hq))) (λ i q o5 j c hj => ?_) (λ i q o5 j c hj => ?_)))))
   ·simp only[execOp,k6,bf,Sem.run_bind,Jb,o8]
    rw[if_neg O',hlen,w4];simp only[Pa,IJ];rfl
   ·have w9:i<u.toNat-l.toNat:=by rw[<-hlen];exact (zS o5).1
    rw[n6 i w9]at o5;rw[show ob+l.toNat*w3+(i*w3+j)=ob+((l.toNat+i)*w3+j) by rw[Ea];omega];exact hc _ q o5 j c hj
   ·have w9:i<u.toNat-l.toNat:=by rw[<-hlen];exact (zS o5).1
    rw[n6 i w9]at o5;exact hr _ q o5 j c hj
structure ZM (B:Nat) (S:Nat->Prop) (m:M) (a8:Nat) (ys:o_) (ad:Option Addr) (news:List Value):Prop where
 len:news.length=ys.length*a8
 cells : ∀ b,ad=some b -> ∀ j v,news[j]? = some v->m.w.cell? (b.add j)=some v
 some_:ys≠[]->ad.isSome=true
 rel : ∀ i cs,ys[i]? = some cs -> ∀ j c,cs[j]? = some c -> ∃ u,news[i*a8+j]? = some u/\CC B S m c u
theorem Agb (a8 i j:Nat) (h:j<a8):(i*a8+j)/a8=i/\(i*a8+j)%a8=j:=by
 constructor
 ·rw[Kd,Nat.add_mul_div_right _ _ O',Nat.div_eq_of_lt h,eb]
 ·rw[Kd,dd,re h]
theorem mK (hm:BW B S w0 m) {av:AV} {v:Value} (hc:CV B S m av v) {ys:o_} (he:FO m.own av=some ys) {a8:Nat} (hz : ∀ e∈ys,e.length=a8) (h0:0<a8) :
  ∃ ad cap news,v = .slice ad ys.length cap/\ZM B S m a8 ys ad news:=by
 cases av with
 | sl l es =>
  simp only[FO,za]at he;subst he;cases dY hc with
  | ka _ ad cap=>exact ⟨ad,cap,[],rfl,Z',λ b _ j v hv=>by simp at hv,λ h=>absurd rfl h,λ i cs hi=>by simp at hi⟩
  | sl _ _ b ob w3 cap uu xh hp hR ae gu l9 hr =>
   have Jr:w3=a8:=by
    cases es with
    | nil=>exact absurd rfl xh
    | cons q r=>rw[<-gu q Z',hz q Z']
   subst Jr;refine ⟨some ⟨b,ob,none⟩,cap,(Kc (es.length*w3)).map (λ k=>uu (k/w3) (k%w3)),rfl,Z',λ b' k8 j v hv => ?_,λ_=>rfl,λ i cs hi j c hj => ?_⟩
   ·obtain rfl:(⟨b,ob,none⟩:Addr)=b':=by simpa using k8
    rw[ja]at hv;have db:j<es.length*w3:=by
     rcases Ld j (es.length*w3) with h|h
     ·exact h
     ·rw[List.getElem?_eq_none (by simpa using h)]at hv;cases hv
    rw[Mc db]at hv;simp only[Pa,za]at hv;subst hv;have hd:j/w3<es.length:=Dd (by rw[Ec];exact db);have Pp:j%w3<w3:=Re _ h0;have fi:(es[j/w3]).length=w3:=gu _ (Kb hd);have:=l9 (j/w3) _ (zE hd) (j%w3) _ (zE (by rw[fi];exact Pp))
    rw[IJ,<-this];congr 2;have:=oe j w3
    rw[Ec]at this;omega
   ·have db:j<w3:=by rw[<-gu cs (zM hi)];exact (zS hj).1
    have w9:i<es.length:=(zS hi).1;have j9:i*w3+j<es.length*w3:=by
     have:(i+1)*w3<=es.length*w3:=zR _ w9
     rw[Rb]at this;omega
    obtain ⟨e1,e2⟩:=Agb w3 i j db;refine ⟨uu i j,?_,.rd (hr i cs hi j c hj)⟩;rw[ja,Mc j9];simp [e1,e2]
 | nil =>
  simp only[FO,za]at he;subst he;exact ⟨none,0,[],SC hc,Z',λ b hb=>(by cases hb),λ h=>absurd rfl h,λ i cs hi=>by simp at hi⟩
 | row s t z off len =>
  obtain ⟨ad,cap,hv,ht,bu,pt,ha,hb⟩:=X7 hc;simp only[FO]at he;cases n6:m.own.get s t with
  | none=>simp [n6]at he
  | some b =>
   simp only[n6]at he;split at he
   ·rename_i hle
    obtain ⟨hle,sz⟩:=hle;obtain rfl:=oa he;have rf:((b.es.drop off).take len).length=len:=by simp;omega
    obtain ⟨_,z8⟩:=hb b n6;by_cases jf:len=0
    ·subst jf
     refine ⟨ad,cap,[],by simpa using hv,Z',λ b _ j v hv=>by simp at hv,λ h=>absurd Z' h,λ i cs hi=>by simp at hi⟩
    ·rcases z8 with ⟨h1,_⟩|⟨g,arr,e',hg,mf,Kq,AAz⟩
     ·exact absurd h1 jf
     ·obtain ⟨gu,er⟩:=hm.c9 s t b n6
      rw[hg]at er;obtain ⟨hB,vq,e2,Bw,w7⟩:=er;rw[Kq]at Bw;obtain ⟨rfl,rfl⟩:arr=vq/\e'=e2:=by simpa using Bw
      have hez:a8=z:=by
       have j9:off<b.es.length:=O'
       have h1:b.es[off]∈(b.es.drop off).take len:=by
        have:((b.es.drop off).take len)[0]? = some b.es[off]:=by
         rw[da,if_pos O',Ra];simp [j9]
        exact zM this
       rw[<-hz _ h1,gu _ (Kb j9),sz]
      subst hez;have w4:off*a8+len*a8<=arr.size:=by
       have:(off+len)*a8<=(off+cap)*a8:=zR _ O'
       rw[Ea]at this;omega
      refine ⟨ad,cap,(arr.toList.drop (off*a8)).take (len*a8),by rw[rf];exact hv,by rw[rf];simp;omega,λ b' k8 j v ij => ?_,λ_=>by rw[mf];rfl,λ i cs hi j c hj => ?_⟩
      ·rw[mf]at k8
       obtain rfl:(⟨g,off*a8,none⟩:Addr)=b':=by simpa using k8
       rw[da]at ij;split at ij
       ·rw[Ra]at ij
        rw[IJ,dO Kq];simpa using ij
       ·cases ij
      ·rw[da]at hi
       split at hi
       ·rename_i w9
        rw[Ra]at hi;have db:j<a8:=by rw[<-sz,<-gu cs (zM hi)];exact (zS hj).1
        obtain ⟨u,hu,gi⟩:=w7 (off+i) cs hi j c hj;refine ⟨u,?_,gi⟩;have j9:i*a8+j<len*a8:=by
         have:(i+1)*a8<=len*a8:=zR _ w9
         rw[Rb]at this;omega
        rw[da,if_pos j9,Ra,<-hu,sz];simp only[Lb];congr 1;rw[Ea];omega
       ·cases hi
   ·cases he
 | cp v' =>
  cases v' with
  | bool b =>
   simp only[FO,za]at he;subst he;obtain ⟨ad,cap,hv,_⟩:=uY hc;exact ⟨ad,cap,[],hv,Z',λ b' k8 j v ij=>by simp at ij,λ h=>absurd rfl h,λ i cs hi=>by simp at hi⟩
  | _=>simp [FO]at he
 | _=>simp [FO]at he
theorem ZM.one {a8:Nat} {ys:o_} {ad:Option Addr} {news:List Value} (h:ZM B S m a8 ys ad news) (h0:0<a8) (hz : ∀ e∈ys,e.length=a8) : ∀ u∈news,u.oneCell'=true:=by
 intro u hu;obtain ⟨k,hk,rfl⟩:=Nc hu;rw[h.len]at hk;have hd:k/a8<ys.length:=Dd (by rw[Ec];exact hk);have Pp:k%a8<a8:=Re _ h0;have fi:(ys[k/a8]).length=a8:=hz _ (Kb hd);obtain ⟨u',mr,hc⟩:=h.rel (k/a8) _ (zE hd) (k%a8) _ (zE (by rw[fi];exact Pp));have fo:k/a8*a8+k%a8=k:=by
  have:=oe k a8
  rw[Ec]at this;exact this
 rw[fo]at mr;obtain rfl:news[k]=u':=by
  have:=(zS mr).2
  exact this
 exact hc.one
theorem ZM.src {a8:Nat} {ys:o_} {ad:Option Addr} {news:List Value} (h:ZM B S m a8 ys ad news) (h0:0<a8) (hz : ∀ e∈ys,e.length=a8) {t e:TypeId} (hu:P.underlying t=some (.slice e)) (cap:Nat):Src P a8 t (.slice ad ys.length cap) ys.length news m.w:=by
 cases ad with
 | none =>
  have yf:ys=[]:=by
   cases ys with
   | nil=>rfl
   | cons y r=>exact absurd (h.some_ Z') Z'
  subst yf;have hn:news=[]:=ea (by simpa using h.len);subst hn;exact Src.ofNil m.w hu cap
 | some b=>exact Src.ofSlice m.w hu b ys.length cap news h.len (h.cells b rfl) (h.one h0 hz)
theorem Alb (arr:Array Value) (off:Nat) (news:List Value) (h:off+news.length<=arr.size) (p:Nat):(arr.toList.take off++news++arr.toList.drop (off+news.length)).toArray[p]? = if p<off then arr[p]? else if p<off+news.length then news[p-off]? else arr[p]? := by
 simp only[Jd];rw[qR _ _ _ (by simpa using h)];simp only[Lb]
theorem Ame (t tx e ex:TypeId) (i:TypeInfo) (ht:P.underlying t=some (.slice e)) (hx:P.underlying tx=some (.slice ex)) (hi:P.info? e=some i) (g off rn uw:Nat) (x:Value) (n:Nat) (news:List Value) (w:World) (hs:Src P i.size tx x n news w) (ig:rn+n<=uw) (arr:Array Value) (e':TypeId)
  (hh:w.heap[g]? = some (.cells arr e' (0,0))) (w4:off+rn*i.size+news.length<=arr.size) (ty:TypeId) :
  (Builtin.append_ #[t,tx] ty #[.slice (some ⟨g,off,none⟩) rn uw,x]).run P w = .ok (.slice (some ⟨g,off,none⟩) (rn+n) uw) (w.setRow g (arr.toList.take (off+rn*i.size)++news++arr.toList.drop (off+rn*i.size+news.length)).toArray):=by
 have g9:=run_storeCells_at (P:=P) g (off+rn*i.size) e' news 0 arr w hh O' hs.one;simp only[Dc]at g9;simp [Builtin.append_,run_underlying ht,run_underlying hx,sizeOf,typeInfo,hi,hs.len,ig,hs.cells,IJ,g9]
theorem Up (t tx e ex:TypeId) (i:TypeInfo) (ht:P.underlying t=some (.slice e)) (hx:P.underlying tx=some (.slice ex)) (hi:P.info? e=some i) (ad:Option Addr) (uw:Nat) (x:Value) (w:World) (hs:Src P i.size tx x 0 [] w) (ty:TypeId) :
  (Builtin.append_ #[t,tx] ty #[.slice ad 0 uw,x]).run P w = .ok (.slice ad 0 uw) w:=by
 have hc:=hs.cells;cases ad<;>simp [Builtin.append_,run_underlying ht,run_underlying hx,sizeOf,typeInfo,hi,hs.len,hc,storeCells]
theorem Y8 {x y:Operand} {t tx:TypeId} (k6:o.op = .call ⟨.builtin .append,#[x,y],#[t,tx]⟩) {u:Value} {w w':World} (h:(Builtin.append_ #[t,tx] o.type #[a.eval x,a.eval y]).run P w = .ok u w'):(execOp a.eval o).run P w = .ok (.value u) w':=by
 simp [execOp,k6,resolve,invoke,builtin,h]
theorem Ajk (dm news:List Value) (z:Array Value) (k p:Nat) (h:p<dm.length+news.length):((dm++news).toArray++Builtin.zeroCells z k)[p]? = (dm++news)[p]? := by
 rw[yc (by simpa using h)];simp
theorem Al3 {a8 len:Nat} {xs ys:o_} {dm news:List Value} (lv:xs.length=len) (La:dm.length=len*a8) (hzx : ∀ e∈xs,e.length=a8)
  (hx : ∀ i cs,xs[i]? = some cs -> ∀ j c,cs[j]? = some c -> ∃ u,dm[i*a8+j]? = some u/\CC B S m c u)
  (hy : ∀ i cs,ys[i]? = some cs -> ∀ j c,cs[j]? = some c -> ∃ u,news[i*a8+j]? = some u/\CC B S m c u) :
  ∀ i cs,(xs++ys)[i]? = some cs -> ∀ j c,cs[j]? = some c -> ∃ u,(dm++news)[i*a8+j]? = some u/\CC B S m c u:=by
 intro i cs hi j c hj;by_cases w9:i<len
 ·rw[Qa O']at hi
  obtain ⟨u,hu,hc⟩:=hx i cs hi j c hj;exact ⟨u,by rw[Qa (by have:=(zS hu).1;omega)];exact hu,hc⟩
 ·rw[Ka O',lv]at hi
  obtain ⟨u,hu,hc⟩:=hy (i-len) cs hi j c hj;refine ⟨u,?_,hc⟩;have e1:i*a8=len*a8+(i-len)*a8:=by rw[<-Ea];congr 1;omega
  rw[Ka O',<-hu];congr 1;omega
theorem Sf {s z n cap:Nat} {es:o_} {w':World} {g t:Nat} {arr:Array Value} {e:TypeId} (hz:0<z) (hn:n<=cap) (hg:w'.heap[g]? = some (.cells arr e (0,0))) (hc:cap*z<=arr.size) :
  CV B S ⟨g8 m s (some g),m.own.put s (((m.own s).q6 t none).new ⟨z,es⟩),w'⟩ (.row s (m.own.g7 s) z 0 n) (.slice (some ⟨g,0,none⟩) n cap):=by
 refine .ca (.one (.row s (m.own.g7 s) z 0 n _ cap ?_ hz hn (λ_=>rfl) λ b' k8=>⟨?_,.inr ⟨g,arr,e,?_,Z',hg,by simpa using hc⟩⟩))
 ·show _<AJ.g7 _ s
  rw[dT];simp
 ·change AJ.get _ s _=some b' at k8
  rw[WP,if_pos ⟨rfl,rfl⟩]at k8;obtain rfl:(⟨z,es⟩:EP)=b':=by simpa using k8
  rfl
 ·simp [g8]
theorem Afc (hm:BW B S w0 m) (ob:Obj):Below B w0 (m.w.drew.alloc ob):=hm.below.drew.alloc (by simpa using hm.size) ob
theorem Agj (hm:BW B S w0 m) (hs:CZ B S m ρ a.eval) {s a8 bytes:Nat} {x' y':AU} (h:BI P num o.op (.app s a8 bytes x' y')=true) {ys:o_} (hy:FO m.own (ρ y')=some ys) (hz : ∀ e∈ys,e.length=a8) {s' t len:Nat} {b:EP} (hx:ρ x' = .row s' t a8 0 len) (n6:m.own.get s' t=some b)
  (sz:b.a8=a8) (hle:len<=b.es.length) (ig:(len+ys.length)*bytes<=DX) (Eu:len+ys.length<=9223372036854775807) :
  C4 B S w0 P o a m (.dw (.row s' (m.own.g7 s') a8 0 (len+ys.length)) (m.own.put s' (((m.own s').q6 t none).new ⟨a8,b.es.take len++ys⟩))):=by
 obtain ⟨x,y,ty,e,i,z,tx,ex,k6,h1,h2,hu,hi,w4,uc,bu,gu,k7,Cj⟩:=Uf h;have h0:0<a8:=Mb k7;obtain ⟨ad,cap,bf,ht,_,pt,ha,hb⟩:=X7 (hx ▸ hs x x' h1);obtain ⟨Cv,kv,news,zo,fi⟩:=mK hm (hs y y' h2) hy hz h0;have uo:Src P i.size tx (.slice Cv ys.length kv) ys.length news m.w:=by rw[w4];exact fi.src h0 hz Cj kv
 obtain ⟨jq,er⟩:=hm.c9 s' t b n6;obtain ⟨_,z8⟩:=hb b n6;have ct:(b.es.take len).length=len:=by simp;omega
 have Cm : ∀ q∈b.es.take len++ys,q.length=a8:=λ q hq=>by
  rcases Ha.1 hq with hq|hq
  ·rw[<-sz];exact jq q (Ib hq)
  ·exact hz q hq
 intro K Q hK;by_cases wx:len+ys.length<=cap
 ·rcases z8 with ⟨jf,ib⟩|⟨g,arr,e',hg,mf,hh,Ny⟩
  ·have yf:ys=[]:=ea O'
   subst yf;subst jf ib;have Ao:news=[]:=ea (by simpa using fi.len);subst Ao;have o8:=Up ty tx e ex i hu Cj hi ad 0 (.slice Cv 0 kv) m.w (by simpa using uo) o.type;obtain ⟨k1,k2⟩:=pB hm s' t b ⟨a8,b.es.take 0++[]⟩ n6 none m.w hm.below (Na _) (λ_ _ _=>rfl) Z' Z' Z';refine P9 (Y8 k6 (by rw[bf,zo];simpa using o8)) (hK _ ⟨g8 m s' none,m.own.put s' (((m.own s').q6 t none).new ⟨a8,b.es.take 0++[]⟩),m.w⟩ rfl k1 k2 (.ca (.one (.row s' (m.own.g7 s') a8 0 0 ad 0 ?_ h0 (Na _) (λ h=>O') λ b' k8=>⟨?_,.inl ⟨rfl,rfl⟩⟩))))
   ·show _<AJ.g7 _ s'
    rw[dT];simp
   ·change AJ.get _ s' _=some b' at k8
    rw[WP,if_pos ⟨rfl,rfl⟩]at k8;obtain rfl:(⟨a8,b.es.take 0++[]⟩:EP)=b':=by simpa using k8
    rfl
  ·have Dh:ad=some ⟨g,0,none⟩:=by simpa using mf
   rw[hg]at er;obtain ⟨hB,vq,e2,Bw,w7⟩:=er;rw[hh]at Bw;obtain ⟨rfl,rfl⟩:arr=vq/\e'=e2:=by simpa using Bw
   have ju:news.length=ys.length*a8:=fi.len;have hbound:len*a8+news.length<=arr.size:=by
    have:(len+ys.length)*a8<=(0+cap)*a8:=zR _ O'
    rw[Ea]at this;omega
   have o8:=Ame ty tx e ex i hu Cj hi g 0 len cap (.slice Cv ys.length kv) ys.length news m.w uo wx arr e' hh (by rw[w4];omega) o.type;rw[w4,eb]at o8;generalize oc:(arr.toList.take (len*a8)++news++arr.toList.drop (len*a8+news.length)).toArray=v9 at o8;have fk : ∀ p,v9[p]? = if p<len*a8 then arr[p]? else if p<len*a8+news.length then news[p-len*a8]? else arr[p]? := λ p=>by rw[<-oc];exact Alb arr (len*a8) news hbound p
   have qu:v9.size=arr.size:=by rw[<-oc];simp;omega
   obtain ⟨k1,k2⟩:=pB hm s' t b ⟨a8,b.es.take len++ys⟩ n6 (some g) (m.w.setRow g v9) (tL hm hB v9) Z' (λ k _ xh=>setRow_other _ _ _ _ (λ e=>xh (e ▸ hg))) Cm Z' (λ g' ke=>by
    obtain rfl:g=g':=by simpa using ke
    refine ⟨hB,.inr hg,v9,e',setRow_heap _ _ _ _ _ _ hh,λ i' cs o5 j c hj => ?_⟩;show ∃ u,v9[i'*a8+j]? = some u/\_;by_cases w9:i'<len
    ·rw[Qa O',da,if_pos w9]at o5
     have db:j<a8:=by rw[<-sz,<-jq cs (zM o5)];exact (zS hj).1
     obtain ⟨u,mr,gi⟩:=w7 i' cs o5 j c hj;refine ⟨u,?_,gi⟩;have:(i'+1)*a8<=len*a8:=zR _ w9
     rw[Rb]at this;rw[fk,if_pos O',<-mr,sz]
    ·rw[Ka O',ct]at o5
     obtain ⟨u,mr,gi⟩:=fi.rel (i'-len) cs o5 j c hj;refine ⟨u,?_,gi⟩;have jz:=(zS mr).1;have e1:i'*a8=len*a8+(i'-len)*a8:=by rw[<-Ea];congr 1;omega
     rw[fk,if_neg O',if_pos O',<-mr];congr 1;omega)
   exact P9 (Y8 k6 (by rw[bf,zo,Dh];exact o8)) (hK _ ⟨g8 m s' (some g),m.own.put s' (((m.own s').q6 t none).new ⟨a8,b.es.take len++ys⟩),m.w.setRow g v9⟩ rfl k1 k2 (Sf h0 wx (setRow_heap _ _ _ _ _ _ hh) (by rw[qu];simpa using Ny)))
 ·have Bv:cap<len+ys.length:=O'
  obtain ⟨dm,La,hold,Iz⟩ : ∃ dm:List Value,dm.length=len*a8/\(Builtin.firstCells i.size len (.slice ad len cap)).run P m.w.drew = .ok dm.toArray m.w.drew/\(∀ i' cs,(b.es.take len)[i']? = some cs -> ∀ j c,cs[j]? = some c -> ∃ u,dm[i'*a8+j]? = some u/\CC B S m c u):=by
   rcases z8 with ⟨jf,ib⟩|⟨g,arr,e',hg,mf,hh,Ny⟩
   ·subst jf
    refine ⟨[],Z',?_,λ i' cs o5=>by simp at o5⟩;cases ad with
    | none=>exact run_firstCells_none m.w.drew i.size 0 0 cap
    | some Et=>exact run_firstCells_some m.w.drew i.size 0 Et 0 cap [] Z' (λ j v hv=>by simp at hv)
   ·have Dh:ad=some ⟨g,0,none⟩:=by simpa using mf
    rw[hg]at er;obtain ⟨hB,vq,e2,Bw,w7⟩:=er;rw[hh]at Bw;obtain ⟨rfl,rfl⟩:arr=vq/\e'=e2:=by simpa using Bw
    have l9:len*a8<=arr.size:=by
     have:len*a8<=(0+cap)*a8:=zR _ O'
     omega
    refine ⟨arr.toList.take (len*a8),by simp;omega,?_,λ i' cs o5 j c hj => ?_⟩
    ·rw[Dh]
     refine run_firstCells_some m.w.drew i.size len ⟨g,0,none⟩ len cap _ (by rw[w4];simp;omega) (λ j v hv => ?_);rw[da]at hv;split at hv
     ·rw[IJ,dO (w:=m.w.drew) (show m.w.heap[g]? = _ from hh)]
      simpa using hv
     ·cases hv
    ·rw[da]at o5
     split at o5
     ·rename_i w9
      have db:j<a8:=by rw[<-sz,<-jq cs (zM o5)];exact (zS hj).1
      obtain ⟨u,mr,gi⟩:=w7 i' cs o5 j c hj;refine ⟨u,?_,gi⟩;have:(i'+1)*a8<=len*a8:=zR _ w9
      rw[Rb]at this;rw[da,if_pos O',<-mr,sz];simp
     ·cases o5
  have o8:=run_append_grow_src (P:=P) m.w ty tx o.type e i z hu hi bu ad len cap dm hold (.slice Cv ys.length kv) ys.length news uo Bv O' (growslice_fits Bv (by rw[uc];exact ig));have ju:news.length=ys.length*a8:=fi.len;have ae:len+ys.length<=grownCap m.w (len+ys.length) cap e:=grownCap_ge _ _ _ _;generalize Hs:grownCap m.w (len+ys.length) cap e=gc at o8 ae;have jr:=Afc hm (.cells ((dm++news).toArray++Builtin.zeroCells z.cells (gc-(len+ys.length))) e);have mj:(m.w.drew.alloc (.cells ((dm++news).toArray++Builtin.zeroCells z.cells (gc-(len+ys.length))) e)).heap[m.w.heap.size]? = some (.cells ((dm++news).toArray++Builtin.zeroCells z.cells (gc-(len+ys.length))) e (0,0)):=heap_alloc_new m.w.drew _;obtain ⟨k1,k2⟩:=pB hm s' t b ⟨a8,b.es.take len++ys⟩ n6 (some m.w.heap.size) _ jr Z' (λ k hk _=>Below.heap_alloc m.w.drew _ k hk) Cm Z' (λ g' ke=>by
   obtain rfl:m.w.heap.size=g':=by simpa using ke
   refine ⟨hm.size,.inl (Na _),_,e,mj,λ i' cs o5 j c hj => ?_⟩;obtain ⟨u,mr,gi⟩:=Al3 ct La (λ q hq=>by rw[<-sz];exact jq q (Ib hq)) Iz fi.rel i' cs o5 j c hj;refine ⟨u,?_,gi⟩;rw[Ajk _ _ _ _ _ (by have:=(zS mr).1;simpa using this)];exact mr)
  refine P9 (Y8 k6 (by rw[bf,zo];exact o8)) (hK _ ⟨g8 m s' (some m.w.heap.size),m.own.put s' (((m.own s').q6 t none).new ⟨a8,b.es.take len++ys⟩),_⟩ rfl k1 k2 (Sf h0 ae mj ?_));have Cn:(Builtin.zeroCells z.cells (gc-(len+ys.length))).size=(gc-(len+ys.length))*a8:=by simp [Builtin.zeroCells,gu]
  rw[Jc,Cn];simp only[ve,ze,La,ju];rw[<-Ea,<-Ea];exact zR _ O'
theorem Agi (hm:BW B S w0 m) (hs:CZ B S m ρ a.eval) {s a8 bytes:Nat} {x' y':AU} (h:BI P num o.op (.app s a8 bytes x' y')=true) {ys:o_} (hy:FO m.own (ρ y')=some ys) (hz : ∀ e∈ys,e.length=a8) (hx:ρ x' = .nil)
  (ig:ys.length*bytes<=DX) (Eu:ys.length<=9223372036854775807) :
  C4 B S w0 P o a m (.dw (.row s (m.own.g7 s) a8 0 ys.length) (m.own.put s ((m.own s).new ⟨a8,ys⟩))):=by
 obtain ⟨x,y,ty,e,i,z,tx,ex,k6,h1,h2,hu,hi,w4,uc,bu,gu,k7,Cj⟩:=Uf h;have h0:0<a8:=Mb k7;have bf:=SC (hx ▸ hs x x' h1);obtain ⟨Cv,kv,news,zo,fi⟩:=mK hm (hs y y' h2) hy hz h0;have uo:Src P i.size tx (.slice Cv ys.length kv) ys.length news m.w:=by rw[w4];exact fi.src h0 hz Cj kv
 intro K Q hK;by_cases yf:ys=[]
 ·subst yf
  have Ao:news=[]:=ea (by simpa using fi.len);subst Ao;have o8:=Up ty tx e ex i hu Cj hi none 0 (.slice Cv 0 kv) m.w (by simpa using uo) o.type;obtain ⟨k1,k2⟩:=Zr hm s a8;refine P9 (Y8 k6 (by rw[bf,zo];simpa using o8)) (hK _ ⟨g8 m s none,m.own.put s ((m.own s).new ⟨a8,[]⟩),m.w⟩ rfl k1 k2 (.ca (.one (.row s (m.own.g7 s) a8 0 0 none 0 ?_ h0 (Na _) (λ h=>O') λ b' k8=>⟨?_,.inl ⟨rfl,rfl⟩⟩))))
  ·show _<AJ.g7 _ s
   rw[M8];simp
  ·change AJ.get _ s _=some b' at k8
   rw[HA,if_pos ⟨rfl,rfl⟩]at k8;obtain rfl:(⟨a8,[]⟩:EP)=b':=by simpa using k8
   rfl
 ·have ug:0<ys.length:=List.length_pos_iff.2 yf
  have o8:=run_append_grow_src (P:=P) m.w ty tx o.type e i z hu hi bu none 0 0 [] (run_firstCells_none m.w.drew i.size 0 0 0) (.slice Cv ys.length kv) ys.length news uo O' O' (growslice_fits O' (by rw[uc,eb];exact ig));simp only[eb,List.nil_append]at o8;have ju:news.length=ys.length*a8:=fi.len;have ae:ys.length<=grownCap m.w ys.length 0 e:=grownCap_ge _ _ _ _;generalize Hs:grownCap m.w ys.length 0 e=gc at o8 ae;have hd:Below m.w.heap.size m.w m.w.drew:=(Below.refl _ _).drew;obtain ⟨gn,Dn⟩:=grow hm hd;obtain ⟨k1,k2⟩:=dG gn s ⟨a8,ys⟩ (news.toArray++Builtin.zeroCells z.cells (gc-ys.length)) e hz (λ i' cs o5 j c hj=>by
   obtain ⟨u,mr,gi⟩:=fi.rel i' cs o5 j c hj;refine ⟨u,?_,Dn.cc gi⟩;have jz:=(zS mr).1;show (news.toArray++Builtin.zeroCells z.cells (gc-ys.length))[i'*a8+j]? = some u;rw[yc (by simpa using jz)];simpa using mr)
  have Cn:(Builtin.zeroCells z.cells (gc-ys.length)).size=(gc-ys.length)*a8:=by simp [Builtin.zeroCells,gu]
  refine P9 (Y8 k6 (by rw[bf,zo];exact o8)) (hK _ ⟨g8 ⟨m.ν,m.own,m.w.drew⟩ s (some m.w.drew.heap.size),m.own.put s ((m.own s).new ⟨a8,ys⟩),_⟩ rfl k1 (Dn.trans k2) (pE (m:=⟨m.ν,m.own,m.w.drew⟩) h0 ae (heap_alloc_new m.w.drew _) ?_));rw[Jc,Cn];simp only[ve,ju];rw[<-Ea];exact zR _ O'
theorem Amf (w:World) (t tx ty e:TypeId) (i:TypeInfo) (z:Value) (ht:P.underlying t=some (.slice e)) {k:IntKind} (hk:P.underlying tx=some (.int k)) (hi:P.info? e=some i) (hz:i.zero=some z) (k':IntKind) (n:Nat)
  (hn:0<n) (Eu:(n:Int)<=9223372036854775807) (h48:n*i.bytes<=DX) (k7:i.size≠0) :
  (Builtin.append_ #[t,tx] ty #[.slice none 0 0,.int k' n]).run P w =
   .ok (.slice (some ⟨w.heap.size,0,none⟩) n (grownCap w n 0 e))
    (w.drew.alloc (.cells (Builtin.zeroCells z.cells n++Builtin.zeroCells z.cells (grownCap w n 0 e-n)) e)):=by
 have wx:=growslice_fits (old:=0) (need:=n) (bytes:=i.bytes) hn h48;have h1 : ¬ (n:Int)<0:=O'
 have h2 : ¬ n=0:=O'
 have h3 : ¬ (9223372036854775807<(n:Int)):=O'
 have h5 : ¬ (281474976710656<Builtin.nextslicecap n 0*i.bytes):=O'
 have h6 : ¬ ((281474976710656:Int)<(n:Int)*(i.bytes:Int)):=by
  have Lx:n*i.bytes<=140737488355328:=h48;have h7:=de.2 Lx;rw[me]at h7;omega
 have hA : ∀ w':World,(asIntOf (.int k' n)).run P w' = .ok (k',(n:Int)) w':=λ w'=>rfl
 have e1:IntKind.i64.wrap (n:Int)=n:=by rw[IntKind.wrap_i64];omega
 generalize hw:IntKind.i64.wrap (n:Int)=q at e1;subst e1;simp [Builtin.append_,run_underlying ht,run_underlying hk,sizeOf,typeInfo,zeroValue,hi,hz,asInt,hA,hw,h1,h2,h3,h5,h6,k7,Question.forced,Builtin.firstCells,newRow,grownCap];intro h;rcases Nat.mul_eq_zero.1 h with h|h
 ·exact absurd h h2
 ·exact absurd h k7
theorem Agk (hm:BW B S w0 m) (hs:CZ B S m ρ a.eval) {s a8 bytes:Nat} {x' y':AU} (h:BI P num o.op (.pg s a8 bytes x' y')=true) (hx:ρ x' = .nil) {k':IntKind} {n:Int} (hy:ρ y' = .int k' n)
  (hn:0<n) (ig:n*bytes<=DX) (Eu:n<=9223372036854775807) :
  C4 B S w0 P o a m (.new s ⟨a8,[]⟩ (λ t => .row s t a8 0 n.toNat)):=by
 obtain ⟨x,y,ty,e,i,z,tx,k,k6,h1,h2,hu,hi,w4,uc,bu,gu,k7,Cj⟩:=AjX h;have h0:0<a8:=Mb k7;have bf:=SC (hx ▸ hs x x' h1);have hey:=IO (hy ▸ hs y y' h2);obtain ⟨q,rfl⟩ : ∃ q:Nat,n=q:=⟨n.toNat,O'⟩;simp only[Int.toNat_natCast];intro K Q hK;have o8:=Amf (P:=P) m.w ty tx o.type e i z hu Cj hi bu k' q O' Eu (by
  rw[uc];rw[<-me]at ig;exact de.1 ig) (by rw[w4];exact k7)
 have ae:q<=grownCap m.w q 0 e:=grownCap_ge _ _ _ _;generalize Hs:grownCap m.w q 0 e=gc at o8 ae;have hd:Below m.w.heap.size m.w m.w.drew:=(Below.refl _ _).drew;obtain ⟨gn,Dn⟩:=grow hm hd;obtain ⟨k1,k2⟩:=dG gn s ⟨a8,[]⟩ (Builtin.zeroCells z.cells q++Builtin.zeroCells z.cells (gc-q)) e Z' (λ i' cs o5 j c hj=>by simp at o5);have Cn : ∀ n,(Builtin.zeroCells z.cells n).size=n*a8:=λ n=>by simp [Builtin.zeroCells,gu]
 refine P9 (Y8 k6 (by rw[bf,hey];exact o8)) (hK _ ⟨g8 ⟨m.ν,m.own,m.w.drew⟩ s (some m.w.drew.heap.size),m.own.put s ((m.own s).new ⟨a8,[]⟩),_⟩ rfl k1 (Dn.trans k2) (pE (m:=⟨m.ν,m.own,m.w.drew⟩) h0 ae (heap_alloc_new m.w.drew _) ?_));rw[Jc,Cn,Cn,<-Ea];exact zR _ O'
end
end Go.c6

namespace Go.c6
open Go.RowKit
section
variable {B:Nat} {S:Nat->Prop} {w0:World} {m:M}
variable {P:Program} {num:Nat->Nat} {o:Oper} {a:Act} {ρ:AU->AV}
structure HW (P:Program) (num:Nat->Nat) (C:Cl):Prop where
 vz : ∀ (f:Nat) (vs:u_) (r:AV),C.pure f vs=some r -> ∀ (us:Array Value) (w:World),(callFunc (num f) us).run P w = .ok (.enter (num f) us) w
 qf : ∀ (f:Nat) (vs:u_) (own:AJ) (r:AV × AJ),C.fe f vs own=some r -> ∀ (us:Array Value) (w:World),(callFunc (num f) us).run P w = .ok (.enter (num f) us) w
 pure : ∀ (f:Nat) (vs:u_) (r:AV),C.pure f vs=some r -> ∀ (S:Nat->Prop) (w:World) (us:List Value),vs.length=us.length->(∀ (j:Nat) (c:AV) (v:Value),vs[j]? = some c->us[j]? = some v->CA w.heap.size S ⟨λ_ _=>none,AJ.emp,w⟩ c v) ->
  Calls P (num f) us.toArray w λ e w' => ∃ u,e = .returned u/\Below w.heap.size w w'/\CV w.heap.size S ⟨λ_ _=>none,AJ.emp,w'⟩ r u/\A3 r
 fe : ∀ (f:Nat) (vs:u_) (own:AJ) (r:AV) (m4:AJ),C.fe f vs own=some (r,m4) -> ∀ (B:Nat) (S:Nat->Prop) (w0:World) (m:M) (us:List Value),m.own=own->BW B S w0 m->vs.length=us.length->(∀ (j:Nat) (c:AV) (v:Value),vs[j]? = some c->us[j]? = some v->CV B S m c v) ->
  Calls P (num f) us.toArray m.w λ e w' => ∃ u m',e = .returned u/\m'.w=w'/\m'.own=m4/\BW B S w0 m'/\DY B S m m'/\CV B S m' r u
 num:C.num=num
end
end Go.c6

namespace Go.c6
open Go.RowKit
theorem Q2 {α β:Type} (f:α->Option β) : ∀ {l:List α} {l':List β},l.mapM f=some l'->l.length=l'.length /\ ∀ (i:Nat) (x:α),l[i]? = some x -> ∃ y,l'[i]? = some y/\f x=some y
 | [],l',h=>by
  simp at h;subst h;exact ⟨rfl,λ i x hx=>by simp at hx⟩
 | x::r,l',h=>by
  simp only[Da,Ba,vb]at h;cases hx:f x with
  | none=>simp [hx]at h
  | some y =>
   cases hr:r.mapM f with
   | none=>simp [hx,hr]at h
   | some r' =>
    simp [hx,hr]at h;subst h;obtain ⟨h1,h2⟩:=Q2 f hr;refine ⟨by simp [h1],λ i z hz => ?_⟩;cases i with
    | zero=>simp at hz;subst hz;exact ⟨y,rfl,hx⟩
    | succ i=>exact h2 i z (by simpa using hz)
section
variable {B:Nat} {S:Nat->Prop} {w0:World} {m:M}
variable {P:Program} {num:Nat->Nat} {o:Oper} {a:Act} {ρ:AU->AV}
theorem Zh (hm:BW B S w0 m) (l0:Bool) (R:Bool->Nat->Prop) (hR : ∀ l b,b<m.w.heap.size->safe B S m l b->R l b) (hL : ∀ s t g,live m s t->m.ν s t=some g->R l0 g) :
  ∀ (d:Nat) (c c':AV) (v:Value),snap m.own l0 d c=some c'->CC B S m c v->Rd m.w R c' v:=by
 intro d;induction d with
 | zero =>
  intro c c' v h hc;cases hc with
  | rd hr =>
   have:c'=c:=by cases hr<;>simp [snap]at h<;>exact h.symm
   subst this;exact hr.mono hR (λ_ _ _ _=>rfl)
  | nil=>simp [snap]at h;subst h;exact .ka _ _ _
  | _=>simp [snap]at h
 | succ d ih =>
  intro c c' v h hc;cases hc with
  | rd hr =>
   have:c'=c:=by cases hr<;>simp [snap]at h<;>exact h.symm
   subst this;exact hr.mono hR (λ_ _ _ _=>rfl)
  | nil=>simp [snap]at h;subst h;exact .ka _ _ _
  | ptr=>simp [snap]at h
  | s9=>simp [snap]at h
  | row s t z off len ad cap ht bu pt ha hb =>
   simp only[snap]at h;cases fi:FO m.own (.row s t z off len) with
   | none=>simp [fi]at h
   | some es =>
    simp only[fi]at h;cases jt:es.mapM (λ cs:u_=>cs.mapM (snap m.own l0 d)) with
    | none=>simp [jt]at h
    | some es' =>
     simp [jt]at h;subst h;have Rm:(∀ e∈es,e.length=z)/\es.length=len /\ ∃ b,m.own.get s t=some b:=by
      simp only[FO]at fi;cases n6:m.own.get s t with
      | none=>simp [n6]at fi
      | some b =>
       simp only[n6]at fi;split at fi
       ·rename_i hle
        obtain rfl:=oa fi;refine ⟨λ e he => ?_,by simp;omega,b,rfl⟩;rw[<-hle.2];exact (hm.c9 s t b n6).1 e (Hd (Ib he))
       ·cases fi
     obtain ⟨hz,hlen,b,n6⟩:=Rm;have w5:CV B S m (.row s t z off len) (.slice ad len cap):= .ca (.one (.row s t z off len ad cap ht bu pt ha hb));obtain ⟨ad2,Lt,news,Lg,hE⟩:=mK hm w5 fi hz bu;obtain ⟨rfl,_,rfl⟩:ad=ad2/\len=es.length/\cap=Lt:=by simpa using Lg
     obtain ⟨iv,wz⟩:=Q2 _ jt;by_cases h0:es=[]
     ·subst h0
      have:es'=[]:=ea (by rw[<-iv];rfl)
      subst this;have:len=0:=by rw[<-hlen];rfl
      subst this;exact .ka _ _ _
     ·obtain ⟨_,z8⟩:=hb b n6
      rcases z8 with ⟨AAw,_⟩|⟨g,arr,e',hg,mf,hh,Ny⟩
      ·exact absurd (ea O') h0
      ·rw[mf,<-hlen,iv]
       refine .sl l0 es' g (off*z) z cap (λ i j=>news.getD (i*z+j) undef) (λ e=>h0 (ea (by rw[iv,e];rfl))) bu (hL s t g ⟨b,n6⟩ hg) O' (λ e' iq => ?_) (λ i e hi j c hj => ?_) (λ i e hi j c hj => ?_)
       ·obtain ⟨i,hi,rfl⟩:=Nc iq
        have o5:i<es.length:=O'
        obtain ⟨y,hy,fj⟩:=wz i es[i] (zE o5);have:es'[i]=y:=by
         have:=(zS hy).2;exact this
        rw[this,<-(Q2 _ fj).1];exact hz _ (Kb o5)
       ·have o5:i<es.length:=by rw[iv];exact (zS hi).1
        obtain ⟨y,hy,fj⟩:=wz i es[i] (zE o5);rw[hi]at hy;obtain rfl:e=y:=by simpa using hy
        obtain ⟨eo,_⟩:=Q2 _ fj;have Fe:j<(es[i]).length:=by rw[eo];exact (zS hj).1
        obtain ⟨u,hu,gi⟩:=hE.rel i es[i] (zE o5) j _ (zE Fe);have:=hE.cells _ mf (i*z+j) u hu
        rw[IJ]at this;simp only[Od,hu,pc];exact this
       ·have o5:i<es.length:=by rw[iv];exact (zS hi).1
        obtain ⟨y,hy,fj⟩:=wz i es[i] (zE o5);rw[hi]at hy;obtain rfl:e=y:=by simpa using hy
        obtain ⟨eo,ke⟩:=Q2 _ fj;have Fe:j<(es[i]).length:=by rw[eo];exact (zS hj).1
        obtain ⟨u,hu,gi⟩:=hE.rel i es[i] (zE o5) j _ (zE Fe);obtain ⟨c2,im,ox⟩:=ke j _ (zE Fe);rw[hj]at im;obtain rfl:c=c2:=by simpa using im
        simp only[Od,hu,pc];exact ih _ _ _ ox gi
def DA (w:World) (R:Bool->Nat->Prop) (c:AV) (v:Value):Prop :=
 Rd w R c v \/ ∃ (cs:u_) (vs:List Value),c = .agg cs/\v = .agg vs.toArray/\cs.length=vs.length /\ ∀ (j:Nat) (x:AV) (u:Value),cs[j]? = some x->vs[j]? = some u->Rd w R x u
theorem iZ (hm:BW B S w0 m) (l0:Bool) (R:Bool->Nat->Prop) (hR : ∀ l b,b<m.w.heap.size->safe B S m l b->R l b) (hL : ∀ s t g,live m s t->m.ν s t=some g->R l0 g)
  {c c':AV} {v:Value} (h:DE m.own l0 c=some c') (hc:CV B S m c v):DA m.w R c' v:=by
 cases hc with
 | any v=>simp [DE,snap]at h
 | c5=>simp [DE,snap]at h
 | ca hc=>cases hc with
  | one hc =>
   have h':snap m.own l0 6 c=some c':=by
    cases hc with
    | rd hr=>cases hr<;>simpa [DE] using h
    | _=>simpa [DE] using h
   exact Or.inl (Zh hm l0 R hR hL 6 c c' v h' hc)
  | fn=>simp [DE,snap]at h
  | ux=>simp [DE,snap]at h
  | agg cs vs l9 =>
   simp only[DE]at h;cases dh:cs.mapM (snap m.own l0 6) with
   | none=>simp [dh]at h
   | some fg =>
    simp [dh]at h;subst h;obtain ⟨h1,h2⟩:=Q2 _ dh;refine Or.inr ⟨fg,vs,rfl,rfl,h1.symm.trans l9.1,λ j x u hx hu => ?_⟩;have hj:j<cs.length:=by rw[h1];exact (zS hx).1
    obtain ⟨y,hy,fj⟩:=h2 j cs[j] (zE hj);rw[hx]at hy;obtain rfl:x=y:=by simpa using hy
    exact Zh hm l0 R hR hL 6 _ _ _ fj (l9.2 j cs[j] u (zE hj) hu)
def DV (w:World) (R:Bool->Nat->Prop) (c:AV) (v:Value):Prop :=
 DA w R c v \/ ∃ (cs:u_) (vs:List Value),c = .c5 cs/\v = .tuple vs.toArray/\cs.length=vs.length /\ ∀ (j:Nat) (x:AV) (u:Value),cs[j]? = some x->vs[j]? = some u->DA w R x u
theorem AmM (hm:BW B S w0 m) (l0:Bool) (R:Bool->Nat->Prop) (hR : ∀ l b,b<m.w.heap.size->safe B S m l b->R l b) (hL : ∀ s t g,live m s t->m.ν s t=some g->R l0 g)
  {c c':AV} {v:Value} (h:VF m.own l0 c=some c') (hc:CV B S m c v):DV m.w R c' v:=by
 by_cases ht : ∃ cs,c = .c5 cs
 ·obtain ⟨cs,rfl⟩:=ht
  obtain ⟨vs,rfl,hl,w7⟩:=lN hc;simp only[VF]at h;cases dh:cs.mapM (DE m.own l0) with
  | none=>simp [dh]at h
  | some fg =>
   simp [dh]at h;subst h;obtain ⟨h1,h2⟩:=Q2 _ dh;refine Or.inr ⟨fg,vs,rfl,rfl,h1.symm.trans hl,λ j x u hx hu => ?_⟩;have hj:j<cs.length:=by rw[h1];exact (zS hx).1
   obtain ⟨y,hy,fj⟩:=h2 j cs[j] (zE hj);rw[hx]at hy;obtain rfl:x=y:=by simpa using hy
   exact iZ hm l0 R hR hL fj (.ca (w7 j cs[j] u (zE hj) hu))
 ·have h':DE m.own l0 c=some c':=by
   cases c<;>first|exact h|exact absurd ⟨_,rfl⟩ ht
  exact Or.inl (iZ hm l0 R hR hL h' hc)
theorem DA.ca {B:Nat} {S:Nat->Prop} {m:M} {c:AV} {v:Value} (h:DA m.w (safe B S m) c v):CA B S m c v:=by
 rcases h with h|⟨cs,vs,rfl,rfl,hl,hh⟩
 ·exact .one (.rd h)
 ·exact .agg cs vs ⟨hl,λ j x u hx hu => .rd (hh j x u hx hu)⟩
theorem DV.cv {B:Nat} {S:Nat->Prop} {m:M} {c:AV} {v:Value} (h:DV m.w (safe B S m) c v):CV B S m c v:=by
 rcases h with h|⟨cs,vs,rfl,rfl,hl,hh⟩
 ·exact .ca h.ca
 ·exact .c5 cs vs hl λ j x u hx hu=>(hh j x u hx hu).ca
theorem M7 : ∀ {cs:u_},B7 cs -> ∀ (j:Nat) (c:AV),cs[j]? = some c->A3 c
 | [],_,j,c,h=>by simp at h
 | x::r,hc,j,c,h=>by
  unfold B7 at hc;cases j with
  | zero=>simp at h;subst h;exact hc.1
  | succ j=>exact M7 hc.2 j c (by simpa using h)
theorem dR : ∀ {cs:o_},EZ cs -> ∀ (j:Nat) (c:u_),cs[j]? = some c->B7 c
 | [],_,j,c,h=>by simp at h
 | x::r,hc,j,c,h=>by
  unfold EZ at hc;cases j with
  | zero=>simp at h;subst h;exact hc.1
  | succ j=>exact dR hc.2 j c (by simpa using h)
theorem Rd.clean {w:World} {R R':Bool->Nat->Prop} (hR : ∀ b,b<w.heap.size->R false b->R' false b) {c:AV} {v:Value} (h:Rd w R c v) (hc:A3 c):Rd w R' c v:=by
 induction h with
 | int k n=>exact .int k n
 | bool b=>exact .bool b
 | str s=>exact .str s
 | my=>exact .my
 | ka l a cap=>exact .ka l a cap
 | emp b a cap h=>exact .emp b a cap h
 | sl l es b o a8 cap u k7 hp h1 ae hz l9 hr ih =>
  unfold A3 at hc;obtain ⟨rfl,hc⟩:=hc;obtain ⟨e,c,he,ib⟩:=aN k7 hp hz;have hb:b<w.heap.size:=V4 (l9 0 e he 0 c ib);exact .sl false es b o a8 cap u k7 hp (hR b hb h1) ae hz l9 λ i e he j c hj=>ih i e he j c hj (M7 (dR hc i e he) j c hj)
theorem DA.clean {w:World} {R R':Bool->Nat->Prop} (hR : ∀ b,b<w.heap.size->R false b->R' false b) {c:AV} {v:Value} (h:DA w R c v) (hc:A3 c):DA w R' c v:=by
 rcases h with h|⟨cs,vs,rfl,rfl,hl,hh⟩
 ·exact Or.inl (h.clean hR hc)
 ·unfold A3 at hc
  exact Or.inr ⟨cs,vs,rfl,rfl,hl,λ j x u hx hu=>(hh j x u hx hu).clean hR (M7 hc j x hx)⟩
theorem DV.clean {w:World} {R R':Bool->Nat->Prop} (hR : ∀ b,b<w.heap.size->R false b->R' false b) {c:AV} {v:Value} (h:DV w R c v) (hc:A3 c):DV w R' c v:=by
 rcases h with h|⟨cs,vs,rfl,rfl,hl,hh⟩
 ·exact Or.inl (h.clean hR hc)
 ·unfold A3 at hc
  exact Or.inr ⟨cs,vs,rfl,rfl,hl,λ j x u hx hu=>(hh j x u hx hu).clean hR (M7 hc j x hx)⟩
theorem lM {B:Nat} {S:Nat->Prop} {m:M} {c:AV} {v:Value} (h:CV B S m c v) (hc:A3 c):DV m.w (safe B S m) c v:=by
 have one : ∀ {c:AV} {v:Value},CC B S m c v->A3 c->Rd m.w (safe B S m) c v:=λ h hc=>by
  cases h with
  | rd h=>exact h
  | _=>unfold A3 at hc;exact hc.elim
 have ca : ∀ {c:AV} {v:Value},CA B S m c v->A3 c->DA m.w (safe B S m) c v:=λ h hc=>by
  cases h with
  | one h=>exact Or.inl (one h hc)
  | fn=>unfold A3 at hc;exact hc.elim
  | ux=>unfold A3 at hc;exact hc.elim
  | agg cs vs h =>
   unfold A3 at hc;exact Or.inr ⟨cs,vs,rfl,rfl,h.1,λ j x u hx hu=>one (h.2 j x u hx hu) (M7 hc j x hx)⟩
 cases h with
 | any v=>unfold A3 at hc;exact hc.elim
 | ca h=>exact Or.inl (ca h hc)
 | c5 as vs hl h =>
  unfold A3 at hc;exact Or.inr ⟨as,vs,rfl,rfl,hl,λ j x u hx hu=>ca (h j x u hx hu) (M7 hc j x hx)⟩
theorem iR {f:Nat} {xs:Array Operand} {ts:Array TypeId} (k6:o.op = .call ⟨.value (.func f),xs,ts⟩) {w:World} (h:(callFunc f (xs.map a.eval)).run P w = .ok (.enter f (xs.map a.eval)) w):(execOp a.eval o).run P w = .ok (.enter f (xs.map a.eval)) w:=by
 simp [execOp,k6,resolve,Deferred.ofValue,Act.eval,invoke];exact h
theorem vS {C:Cl} (hC:HW P num C) (hm:BW B S w0 m) {f:Nat} {us:List Value} {as:u_} (hl:us.length=as.length) (hx : ∀ (j:Nat) (v:Value) (c:AV),us[j]? = some v->as[j]? = some c->CV B S m c v) (hex : ∀ w:World,(callFunc (num f) us.toArray).run P w = .ok (.enter (num f) us.toArray) w->(execOp a.eval o).run P w = .ok (.enter (num f) us.toArray) w) {vs:u_} {r:AV} (hv:as.mapM (DE m.own true)=some vs) (hr:C.pure f vs=some r):C4 B S w0 P o a m (.val r):=by
 obtain ⟨eo,ke⟩:=Q2 _ hv;have kz : ∀ (j:Nat) (c:AV) (v:Value),vs[j]? = some c->us[j]? = some v->CA m.w.heap.size (safe B S m false) ⟨λ_ _=>none,AJ.emp,m.w⟩ c v:=by
  intro j c v hc vj;have db:j<as.length:=by rw[<-hl];exact (zS vj).1
  obtain ⟨y,hy,fj⟩:=ke j as[j] (zE db);rw[hc]at hy;obtain rfl:c=y:=by simpa using hy
  have w5:=hx j v as[j] vj (zE db);have po:=iZ hm true (safe m.w.heap.size (safe B S m false) ⟨λ_ _=>none,AJ.emp,m.w⟩) (λ l b hb Av=>by
   cases l with
   | false=>exact .inl ⟨Av,hb⟩
   | true=>exact .inr (.inr ⟨rfl,hb⟩)) (λ s t g iw hg=>by
   obtain ⟨_,arr,e,hh⟩:=hm.ge iw hg;exact .inr (.inr ⟨rfl,(sa.1 hh).1⟩)) fj w5
  exact DA.ca (m:=⟨λ_ _=>none,AJ.emp,m.w⟩) po
 have ga:=hC.pure f vs r hr (safe B S m false) m.w us (by rw[<-eo];exact hl.symm) kz;intro K Q hK;unfold Oper.wp;rw[hex _ (hC.vz f vs r hr _ _)];refine Calls.mono ga λ e w' ⟨u,iq,jr,w5,l9⟩ => ?_
 subst iq;obtain ⟨nj,gm⟩:=grow hm jr;refine hK u ⟨m.ν,m.own,w'⟩ rfl nj gm ?_;refine DV.cv (m:=⟨m.ν,m.own,w'⟩) ((lM w5 l9).clean (λ b hb Av => ?_) l9);rcases Av with ⟨h1,h2⟩|⟨h1,_⟩|⟨h1,_⟩
 ·exact gm.Cr false b h2 h1
 ·refine .inr (.inl ⟨Db hm.size h1,λ s t iw hg => ?_⟩)
  obtain ⟨b',k8⟩:=Fa.1 iw;obtain ⟨_,arr,e,hh⟩:=hm.ge ⟨b',k8⟩ hg;have:=(sa.1 hh).1
  omega
 ·cases h1
theorem vR {C:Cl} (hC:HW P num C) (hm:BW B S w0 m) (hs:CZ B S m ρ a.eval) {f:Nat} {xs:Array Operand} {n0:List AU} (he:EV xs.toList n0=true) (hex : ∀ w:World,(callFunc (num f) (xs.map a.eval)).run P w = .ok (.enter (num f) (xs.map a.eval)) w->(execOp a.eval o).run P w = .ok (.enter (num f) (xs.map a.eval)) w) {vs:u_} {r:AV} (hv:(n0.map ρ).mapM (DE m.own true)=some vs) (hr:C.pure f vs=some r):C4 B S w0 P o a m (.val r):=by
 obtain ⟨hl,hx⟩:=WG hs he;have gp:(xs.map a.eval)=(xs.toList.map a.eval).toArray:=by cases xs;simp
 rw[gp]at hex;refine vS hC hm (us:=xs.toList.map a.eval) (as:=n0.map ρ) (by simp [hl]) (λ j v c h1 h2 => ?_) hex hv hr;rw[ja]at h1 h2;cases kp:xs.toList[j]? with
 | none=>simp [kp]at h1
 | some x =>
  cases qa:n0[j]? with
  | none=>simp [qa]at h2
  | some y =>
   simp only[kp,qa,Pa,za]at h1 h2;subst h1 h2;exact hx j x y kp qa
theorem Agq {C:Cl} (hC:HW P num C) (hm:BW B S w0 m) (hs:CZ B S m ρ a.eval) {f:Nat} {n0:List AU} (h:BI P num o.op (.call f n0)=true) {vs:u_} {r:AV} (hv:(n0.map ρ).mapM (DE m.own true)=some vs) (hr:C.pure f vs=some r):C4 B S w0 P o a m (.val r):=by
 obtain ⟨xs,ts,k6,he⟩:=oG h;exact vR hC hm hs he (λ w h=>iR k6 h) hv hr
theorem mD {C:Cl} (hC:HW P num C) (hm:BW B S w0 m) (hs:CZ B S m ρ a.eval) {f:Nat} {n0:List AU} (h:BI P num o.op (.c7 f n0)=true) {r:AV} {m4:AJ} (hr:C.fe f (n0.map ρ) m.own=some (r,m4)):C4 B S w0 P o a m (.dw r m4):=by
 obtain ⟨xs,ts,k6,he⟩:=Aj3 h;obtain ⟨hl,hx⟩:=WG hs he;have gp:(xs.map a.eval)=(xs.toList.map a.eval).toArray:=by cases xs;simp
 have ga:=hC.fe f (n0.map ρ) m.own r m4 hr B S w0 m (xs.toList.map a.eval) rfl hm (by simp [hl]) (λ j c v hc hv=>by
  rw[ja]at hc hv;cases kp:xs.toList[j]? with
  | none=>simp [kp]at hv
  | some x =>
   cases qa:n0[j]? with
   | none=>simp [qa]at hc
   | some y =>
    simp [kp]at hv;simp [qa]at hc;subst hv hc;exact hx j x y kp qa)
 intro K Q hK;unfold Oper.wp;rw[iR k6 (hC.qf f _ _ _ hr _ _),gp];refine Calls.mono ga λ e w' ⟨u,m',iq,hw,j8,nj,gm,w5⟩ => ?_
 subst iq hw;exact hK u m' j8 nj gm w5
theorem AeY (hm:BW B S w0 m) {w':World} (hb:Below m.w.heap.size m.w w') (s:Nat) (b:EP) (gg:Option Nat) (hz : ∀ x∈b.es,x.length=b.a8)
  (hg:match gg with|none=>b.es=[]|some g=>m.w.heap.size<=g /\ ∃ arr e,w'.heap[g]? = some (.cells arr e (0,0)) /\ ∀ i cs,b.es[i]? = some cs -> ∀ j c,cs[j]? = some c -> ∃ u,arr[i*b.a8+j]? = some u/\CC B S ⟨g8 m s gg,m.own.put s ((m.own s).new b),w'⟩ c u) :
  BW B S w0 ⟨g8 m s gg,m.own.put s ((m.own s).new b),w'⟩/\DY B S m ⟨g8 m s gg,m.own.put s ((m.own s).new b),w'⟩:=by
 have hν : ∀ s' t',live m s' t'->g8 m s gg s' t'=m.ν s' t':=λ s' t' hl=>by
  unfold g8;rw[if_neg];rintro ⟨rfl,rfl⟩
  exact gV hm _ hl
 have mi : ∀ g,gg=some g->m.w.heap.size<=g:=λ g e=>by subst e;exact hg.1
 have he:DY B S m ⟨g8 m s gg,m.own.put s ((m.own s).new b),w'⟩:=by
  refine WM hm hb.size (λ k hk _=>hb.block k hk) (λ s' => ?_) (λ s' t' b' ht k8 => ?_) (λ s' t' g hl fk j9 => ?_)
  ·rw[M8];split
   ·rename_i h;subst h;omega
   ·exact Na _
  ·rw[HA]at k8
   rw[if_neg (by rintro ⟨rfl,rfl⟩;omega)]at k8;refine ⟨b',k8,rfl,hν s' t' ⟨b',k8⟩,λ g ar e' fk ha=>⟨ar,?_,rfl⟩⟩;exact (hb.block g (sa.1 ha).1).trans ha
  ·obtain ⟨b',k8⟩:=hl
   rw[HA]at k8;by_cases h:s'=s/\t'=m.own.g7 s
   ·simp only[g8,if_pos h]at fk
    have:=mi g fk
    omega
   ·rw[if_neg h]at k8
    exact ⟨s',t',⟨b',k8⟩,by rw[<-hν s' t' ⟨b',k8⟩];exact fk⟩
 refine ⟨⟨hm.below.trans (hb.mono hm.size),Db hm.size hb.size,λ s' t' ht => ?_,λ s' t' b' k8 => ?_,λ s1 t1 s2 t2 b1 b2 g h1 h2 g1 g2 => ?_⟩,he⟩
 ·rw[M8]at ht
  rw[HA,if_neg]
  ·refine hm.fresh s' t' ?_
   split at ht
   ·rename_i h;subst h;omega
   ·exact ht
  ·rintro ⟨rfl,rfl⟩
   simp at ht;omega
 ·rw[HA]at k8
  by_cases h:s'=s/\t'=m.own.g7 s
  ·rw[if_pos h]at k8
   obtain rfl:b=b':=by simpa using k8
   refine ⟨hz,?_⟩;show match g8 m s gg s' t' with|none=>_|some g=>_
   rw[show g8 m s gg s' t'=gg by simp [g8,h]];cases gg with
   | none=>exact hg
   | some g=>exact ⟨Db hm.size hg.1,hg.2⟩
  ·rw[if_neg h]at k8
   obtain ⟨h1,h2⟩:=hm.c9 s' t' b' k8;refine ⟨h1,?_⟩;show match g8 m s gg s' t' with|none=>_|some g=>_
   rw[hν s' t' ⟨b',k8⟩];cases hv:m.ν s' t' with
   | none=>rw[hv]at h2;exact h2
   | some g =>
    rw[hv]at h2;obtain ⟨h3,ar,e',h4,h5⟩:=h2;refine ⟨h3,ar,e',(hb.block g (sa.1 h4).1).trans h4,λ i cs hi j c hj => ?_⟩;obtain ⟨u,hu,w7⟩:=h5 i cs hi j c hj;exact ⟨u,hu,he.cc w7⟩
 ·rw[HA]at h1 h2
  have lt : ∀ s' t' b',m.own.get s' t'=some b'->g8 m s gg s' t'=some g->g<m.w.heap.size:=λ s' t' b' k8 fk=>by
   rw[hν s' t' ⟨b',k8⟩]at fk;obtain ⟨_,ar,e',h4⟩:=hm.ge ⟨b',k8⟩ fk;exact (sa.1 h4).1
  have at_ : ∀ s' t',s'=s/\t'=m.own.g7 s->g8 m s gg s' t'=some g->m.w.heap.size<=g:=λ s' t' h fk=>by
   simp only[g8,if_pos h]at fk;exact mi g fk
  by_cases p1:s1=s/\t1=m.own.g7 s<;>by_cases p2:s2=s/\t2=m.own.g7 s
  ·exact ⟨p1.1.trans p2.1.symm,p1.2.trans p2.2.symm⟩
  ·rw[if_neg p2]at h2
   have:=lt s2 t2 b2 h2 g2
   have:=at_ s1 t1 p1 g1
   omega
  ·rw[if_neg p1]at h1
   have:=lt s1 t1 b1 h1 g1
   have:=at_ s2 t2 p2 g2
   omega
  ·rw[if_neg p1]at h1
   rw[if_neg p2]at h2;exact hm.inj s1 t1 s2 t2 b1 b2 g h1 h2 (by rw[<-hν s1 t1 ⟨b1,h1⟩];exact g1) (by rw[<-hν s2 t2 ⟨b2,h2⟩];exact g2)
theorem Agu {C:Cl} (hC:HW P num C) (hm:BW B S w0 m) (hs:CZ B S m ρ a.eval) {s f:Nat} {n0:List AU} (h:BI P num o.op (.n7 s f n0)=true) {vs:u_} (hv:(n0.map ρ).mapM (P2 m.own true)=some vs) {z:Nat} {es:o_} (hr:N7 (C.fe f vs AJ.emp)=some (z,es)) :
  C4 B S w0 P o a m (.new s ⟨z,es⟩ (λ t => .row s t z 0 es.length)):=by
 obtain ⟨xs,ts,k6,he⟩:=oG (Aj5 h);obtain ⟨s0,t0,o',b0,Hw,n6,rfl,l9⟩:=AeX hr;obtain ⟨hl,hx⟩:=WG hs he;obtain ⟨eo,ke⟩:=Q2 _ hv;have gp:(xs.map a.eval)=(xs.toList.map a.eval).toArray:=by cases xs;simp
 have kz : ∀ (j:Nat) (c:AV) (v:Value),vs[j]? = some c->(xs.toList.map a.eval)[j]? = some v->CV m.w.heap.size (safe B S m false) ⟨λ_ _=>none,AJ.emp,m.w⟩ c v:=by
  intro j c v hc vj;rw[ja]at vj;cases kp:xs.toList[j]? with
  | none=>simp [kp]at vj
  | some x =>
   simp [kp]at vj;subst vj;have db:j<n0.length:=by rw[<-hl];exact (zS kp).1
   obtain ⟨y,hy,fj⟩:=ke j (ρ n0[j]) (by rw[ja,zE db];rfl);rw[hc]at hy;obtain rfl:c=y:=by simpa using hy
   have w5:=hx j x n0[j] kp (zE db);have hN:(ρ n0[j] = .nil/\c = .nil)\/DE m.own true (ρ n0[j])=some c:=by
    cases e:ρ n0[j] with
    | nil=>rw[e]at fj;exact .inl ⟨rfl,(oa fj).symm⟩
    | _=>rw[e]at fj;exact .inr fj
   rcases hN with ⟨e1,rfl⟩|fj
   ·rw[e1]at w5
    rw[SC w5];exact .ca (.one .nil)
   have po:=iZ hm true (safe m.w.heap.size (safe B S m false) ⟨λ_ _=>none,AJ.emp,m.w⟩) (λ l b hb Av=>by
    cases l with
    | false=>exact .inl ⟨Av,hb⟩
    | true=>exact .inr (.inr ⟨rfl,hb⟩)) (λ s t g iw hg=>by
    obtain ⟨_,arr,e,hh⟩:=hm.ge iw hg;exact .inr (.inr ⟨rfl,(sa.1 hh).1⟩)) fj w5
   exact .ca (DA.ca (m:=⟨λ_ _=>none,AJ.emp,m.w⟩) po)
 have hm0:BW m.w.heap.size (safe B S m false) m.w ⟨λ_ _=>none,AJ.emp,m.w⟩:=⟨Below.refl _ _,Na _,λ_ _ _=>rfl,(λ s t b h=>by cases h),(λ_ _ _ _ _ _ _ h=>by cases h)⟩;have ga:=hC.fe f vs AJ.emp _ o' Hw m.w.heap.size (safe B S m false) m.w ⟨λ_ _=>none,AJ.emp,m.w⟩ (xs.toList.map a.eval) rfl hm0 (by rw[<-eo];simp [hl]) kz;intro K Q hK;unfold Oper.wp;rw[iR k6 (hC.qf f _ _ _ Hw _ _),gp];refine Calls.mono ga λ e w' ⟨u,m',iq,hw,j8,nj,Aoc,w5⟩ => ?_
 subst iq hw;have jr:Below m.w.heap.size m.w m'.w:=nj.below;rw[<-j8]at n6;obtain ⟨hz,od⟩:=nj.c9 s0 t0 b0 n6;obtain ⟨ad,cap,rfl,ht,bu,pt,ha,hb⟩:=X7 w5;obtain ⟨gu,z8⟩:=hb b0 n6;subst gu;have hold : ∀ s t g,live m s t->m.ν s t=some g->g<m.w.heap.size:=λ s t g iw hg=>by
  obtain ⟨_,arr,e,hh⟩:=hm.ge iw hg;exact (sa.1 hh).1
 have Dw : ∀ s' t' g,live ⟨g8 m s (m'.ν s0 t0),m.own.put s ((m.own s).new ⟨b0.a8,b0.es⟩),m'.w⟩ s' t'->g8 m s (m'.ν s0 t0) s' t'=some g->g<m.w.heap.size\/m'.ν s0 t0=some g:=λ s' t' g iw hg=>by
  obtain ⟨b',k8⟩:=iw;rw[HA]at k8;by_cases g9:s'=s/\t'=m.own.g7 s
  ·simp only[g8,if_pos g9]at hg
   exact Or.inr hg
  ·rw[if_neg g9]at k8
   simp only[g8,if_neg g9]at hg;exact Or.inl (hold s' t' g ⟨b',k8⟩ hg)
 have hR : ∀ b,b<m'.w.heap.size->safe m.w.heap.size (safe B S m false) m' false b->safe B S ⟨g8 m s (m'.ν s0 t0),m.own.put s ((m.own s).new ⟨b0.a8,b0.es⟩),m'.w⟩ false b:=λ b tz Av=>by
  rcases Av with ⟨h1,h2⟩|⟨h1,h2⟩|⟨h1,_⟩
  ·rcases h1 with h1|⟨h1,h3⟩|⟨h1,_⟩
   ·exact .inl h1
   ·refine .inr (.inl ⟨h1,λ s' t' iw hg => ?_⟩)
    obtain ⟨b',k8⟩:=Fa.1 iw;have u4:=k8;rw[HA]at u4;by_cases g9:s'=s/\t'=m.own.g7 s
    ·simp only[g8,if_pos g9]at hg
     rw[hg]at od;have:=od.1
     omega
    ·rw[if_neg g9]at u4
     simp only[g8,if_neg g9]at hg;exact h3 s' t' (by rw[u4];rfl) hg
   ·cases h1
  ·refine .inr (.inl ⟨Db hm.size h1,λ s' t' iw hg => ?_⟩)
   rcases Dw s' t' b (Fa.1 iw) hg with h3|h3
   ·omega
   ·exact h2 s0 t0 (by rw[n6];rfl) h3
  ·cases h1
 obtain ⟨ew,gm⟩:=AeY hm jr s ⟨b0.a8,b0.es⟩ (m'.ν s0 t0) hz (by
  cases hν:m'.ν s0 t0 with
  | none=>rw[hν]at od;exact od
  | some g =>
   rw[hν]at od hR;obtain ⟨h1,arr,e,h2,h3⟩:=od;refine ⟨h1,arr,e,h2,λ i cs hi j c hj => ?_⟩;obtain ⟨u,hu,w7⟩:=h3 i cs hi j c hj;refine ⟨u,hu,.rd ?_⟩;have qm:=M7 (dR l9 i cs hi) j c hj;have ko:Rd m'.w (safe m.w.heap.size (safe B S m false) m') c u:=by
    cases w7 with
    | rd h=>exact h
    | _=>unfold A3 at qm;exact qm.elim
   exact ko.clean hR qm)
 refine hK _ ⟨g8 m s (m'.ν s0 t0),m.own.put s ((m.own s).new ⟨b0.a8,b0.es⟩),m'.w⟩ rfl ew gm (.ca (.one (.row s (m.own.g7 s) b0.a8 0 b0.es.length ad cap (by show m.own.g7 s<AJ.g7 (m.own.put s _) s;rw[M8,if_pos rfl];omega) bu pt ha λ b1 qk => ?_)));have Ai:(m.own.put s ((m.own s).new ⟨b0.a8,b0.es⟩)).get s (m.own.g7 s)=some b1:=qk;rw[HA,if_pos ⟨rfl,rfl⟩]at Ai;obtain rfl:=oa Ai;refine ⟨rfl,?_⟩;rcases z8 with h0|⟨g,arr,e,hg,mf,hh,hle⟩
 ·exact .inl h0
 ·exact .inr ⟨g,arr,e,by simp [g8,hg],mf,hh,hle⟩
theorem uZ {p:Bool} {f g:Nat} {cs:u_} {v:Value} (h:CV B S m (.fn p f g cs) v) (hp:p=false\/cs=[]) : ∃ vs:List Value,v = .func (.func g) #[] vs.toArray/\CL B S m cs vs:=by
 cases h with
 | ca h=>cases h with
  | one h=>cases h with
   | rd h=>cases h
  | fn p f g cs vs hp h=>exact ⟨vs,rfl,h⟩
  | ux f g cs vs k7 h =>
   rcases hp with hp|hp
   ·cases hp
   ·exact absurd hp k7
theorem AfR {f g:Nat} {cs:u_} {v:Value} (h:CV B S m (.fn true f g cs) v) (k7:cs≠[]) : ∃ vs:List Value,v = .func (.func g) #[.agg vs.toArray] #[]/\CL B S m cs vs:=by
 cases h with
 | ca h=>cases h with
  | one h=>cases h with
   | rd h=>cases h
  | fn p f g cs vs hp h=>exact absurd (hp rfl) k7
  | ux f g cs vs k7 h=>exact ⟨vs,rfl,h⟩
theorem Uq {f:Nat} {x:Operand} {xs:Array Operand} {ts:Array TypeId} {vs:Array Value} (k6:o.op = .call ⟨.value x,xs,ts⟩) (hx:a.eval x = .func (.func f) #[] vs) {w:World} (h:(callFunc f (xs.map a.eval++vs)).run P w = .ok (.enter f (xs.map a.eval++vs)) w):(execOp a.eval o).run P w = .ok (.enter f (xs.map a.eval++vs)) w:=by
 simp [execOp,k6,resolve,Deferred.ofValue,hx,invoke];exact h
theorem Agv {C:Cl} (hC:HW P num C) (hm:BW B S w0 m) (hs:CZ B S m ρ a.eval) {x':AU} {n0:List AU} (h:BI P num o.op (.m9 x' n0)=true) {f:Nat} {cs:u_} (hf:ρ x' = .fn false f (num f) cs) {r:AV} {m4:AJ} (hr:C.fe f (n0.map ρ++cs) m.own=some (r,m4)):C4 B S w0 P o a m (.dw r m4):=by
 obtain ⟨x,xs,ts,k6,qy,he⟩:=oH h;obtain ⟨hl,hx⟩:=WG hs he;obtain ⟨vs,hv,l9⟩:=uZ (hf ▸ hs x x' qy) (.inl rfl);have gp:(xs.map a.eval++vs.toArray)=(xs.toList.map a.eval++vs).toArray:=by cases xs;simp
 have ga:=hC.fe f (n0.map ρ++cs) m.own r m4 hr B S w0 m (xs.toList.map a.eval++vs) rfl hm (by simp [hl,l9.1]) (λ j c v hc hv=>by
  by_cases hj:j<n0.length
  ·rw[Qa (by simpa using hj),ja]at hc
   rw[Qa (by simpa [hl] using hj),ja]at hv;have hj2:j<xs.toList.length:=by rw[hl];exact hj
   rw[zE hj]at hc;rw[zE hj2]at hv;simp only[Pa,za]at hc hv;subst hc hv;exact hx j _ _ (zE hj2) (zE hj)
  ·rw[Ka (by simpa using hj),Oc]at hc
   rw[Ka (by simpa [hl] using hj),Oc,hl]at hv;exact .ca (.one (l9.2 _ c v hc hv)))
 intro K Q hK;unfold Oper.wp;rw[Uq k6 hv (hC.qf f _ _ _ hr _ _),gp];refine Calls.mono ga λ e w' ⟨u,m',iq,hw,j8,nj,gm,w5⟩ => ?_
 subst iq hw;exact hK u m' j8 nj gm w5
theorem Ags {C:Cl} (hC:HW P num C) (hm:BW B S w0 m) (hs:CZ B S m ρ a.eval) {x':AU} {n0:List AU} (h:BI P num o.op (.m9 x' n0)=true) {f:Nat} (hf:ρ x' = .fn true f (num f) []) {vs:u_} {r:AV} (hv:(n0.map ρ).mapM (DE m.own true)=some vs) (hr:C.pure f vs=some r):C4 B S w0 P o a m (.val r):=by
 obtain ⟨x,xs,ts,k6,qy,he⟩:=oH h;obtain ⟨us,hu,l9⟩:=uZ (hf ▸ hs x x' qy) (.inr rfl);have Jk:us=[]:=ea (by rw[<-l9.1];rfl);subst Jk;refine vR hC hm hs he (λ w h => ?_) hv hr;have:=Uq (P:=P) (w:=w) k6 hu (by simpa using h)
 simpa using this
theorem Aml {f:Nat} {x:Operand} {xs:Array Operand} {ts:Array TypeId} {u:Value} (k6:o.op = .call ⟨.value x,xs,ts⟩) (hx:a.eval x = .func (.func f) #[u] #[]) {w:World} (h:(callFunc f (#[u]++xs.map a.eval)).run P w = .ok (.enter f (#[u]++xs.map a.eval)) w):(execOp a.eval o).run P w = .ok (.enter f (#[u]++xs.map a.eval)) w:=by
 simp [execOp,k6,resolve,Deferred.ofValue,hx,invoke];exact h
theorem Agr {C:Cl} (hC:HW P num C) (hm:BW B S w0 m) (hs:CZ B S m ρ a.eval) {x':AU} {n0:List AU} (h:BI P num o.op (.m9 x' n0)=true) {f:Nat} {c:AV} {cs:u_} (hf:ρ x' = .fn true f (num f) (c::cs)) {vs:u_} {r:AV} (hv:(AV.agg (c::cs)::n0.map ρ).mapM (DE m.own true)=some vs) (hr:C.pure f vs=some r):C4 B S w0 P o a m (.val r):=by
 obtain ⟨x,xs,ts,k6,qy,he⟩:=oH h;obtain ⟨us,hu,l9⟩:=AfR (hf ▸ hs x x' qy) Z';obtain ⟨hl,hx⟩:=WG hs he;have gp:(#[Value.agg us.toArray]++xs.map a.eval)=(Value.agg us.toArray::xs.toList.map a.eval).toArray:=by cases xs;simp
 refine vS hC hm (us:=Value.agg us.toArray::xs.toList.map a.eval) (as:=AV.agg (c::cs)::n0.map ρ) (by simp [hl]) (λ j v c' h1 h2 => ?_) (λ w h=>by
  rw[<-gp]at h ⊢;exact Aml k6 hu h) hv hr
 cases j with
 | zero =>
  simp only[List.getElem?_cons_zero,za]at h1 h2;subst h1 h2;exact .ca (.agg _ _ l9)
 | succ j =>
  rw[List.getElem?_cons_succ,ja]at h1 h2;cases kp:xs.toList[j]? with
  | none=>simp [kp]at h1
  | some x =>
   cases qa:n0[j]? with
   | none=>simp [qa]at h2
   | some y =>
    simp only[kp,qa,Pa,za]at h1 h2;subst h1 h2;exact hx j x y kp qa
theorem AgJ (hm:BW B S w0 m) (hs:CZ B S m ρ a.eval) {f:Nat} {x':AU} (h:BI P num o.op (.ti f x')=true) {c:AV} {cs:u_} (hc:ρ x' = .agg (c::cs)) :
  C4 B S w0 P o a m (.val (.fn true f (num f) (c::cs))):=by
 obtain ⟨x,k6,he⟩:=Ake h;obtain ⟨vs,hv,l9⟩:=dV (hc ▸ hs x x' he);refine EU hm (u := .func (.func (num f)) #[.agg vs.toArray] #[]) ?_ (.ca (.ux f (num f) (c::cs) vs Z' l9));simp [execOp,k6,Instr.makeFunc,hv]
theorem Rd.to1 {w:World} {R R':Bool->Nat->Prop} (hR : ∀ l b,b<w.heap.size->R l b -> ∀ l',R' l' b) {c:AV} {v:Value} (h:Rd w R c v) (hq:HE c=true):Rd w R' (ZE c) v:=by
 cases h with
 | int k n=>exact .int k n
 | bool b=>exact .bool b
 | str s=>simp [HE]at hq
 | my=>simp [HE]at hq
 | emp=>simp [HE]at hq
 | ka l a cap=>exact .ka false a cap
 | sl l es b o a8 cap u k7 hp h1 ae hz l9 hr =>
  obtain ⟨e,c,he,ib⟩:=aN k7 hp hz;have hb:b<w.heap.size:=V4 (l9 0 e he 0 c ib);exact .sl false es b o a8 cap u k7 hp (hR l b hb h1 false) ae hz l9 λ i e he j c hj=>(hr i e he j c hj).mono (λ l b hb h=>hR l b hb h l) (λ_ _ _ _=>rfl)
theorem Rd.Bg {w:World} {R R':Bool->Nat->Prop} (hR : ∀ b,b<w.heap.size->R false b->R' true b) {c:AV} {v:Value} (h:Rd w R c v) (hc:A3 c) (hf:ZN c):Rd w R' (aT c) v:=by
 cases h with
 | int k n=>exact .int k n
 | bool b=>exact .bool b
 | str s=>exact hf.elim
 | my=>exact hf.elim
 | emp=>exact hf.elim
 | ka l a cap=>exact .ka true a cap
 | sl l es b o a8 cap u k7 hp h1 ae hz l9 hr =>
  unfold A3 at hc;obtain ⟨rfl,hc⟩:=hc;obtain ⟨e,c,he,ib⟩:=aN k7 hp hz;have hb:b<w.heap.size:=V4 (l9 0 e he 0 c ib);refine .sl true es b o a8 cap u k7 hp (hR b hb h1) ae hz l9 λ i e he j c hj => ?_
  have Pu:=hf e (zM he) c (zM hj);have Eg:=hr i e he j c hj;generalize u i j=vv at Eg ⊢;cases Eg<;>first|exact .int _ _|exact .bool _|(simp [Wi]at Pu)
theorem oM : ∀ l:u_,NE l=l.map IA
 | []=>by simp [NE]
 | c::r=>by rw[NE,oM r];rfl
theorem Tg : ∀ l:o_,OR l=l.map λ e=>e.map IA
 | []=>by simp [OR]
 | c::r=>by rw[OR,Tg r,oM];rfl
theorem Rd.Bh {w:World} {R R':Bool->Nat->Prop} (hR : ∀ b,b<w.heap.size->R false b->R' true b) {c:AV} {v:Value} (h:Rd w R c v):A3 c->Rd w R' (IA c) v:=by
 induction h with
 | int k n=>intro _;exact .int k n
 | bool b=>intro _;exact .bool b
 | str s=>intro _;exact .str s
 | my=>intro _;exact .my
 | emp b a cap h=>intro _;exact .emp b a cap h
 | ka l a cap=>intro _;exact .ka true a cap
 | sl l es b o a8 cap u k7 hp h1 ae hz l9 hr ih =>
  intro hc;unfold A3 at hc;obtain ⟨rfl,hc⟩:=hc;obtain ⟨e,c,he,ib⟩:=aN k7 hp hz;have hb:b<w.heap.size:=V4 (l9 0 e he 0 c ib);have az : ∀ (i:Nat) (e':u_),(es.map λ e:u_=>e.map IA)[i]? = some e' -> ∃ e,es[i]? = some e/\e'=e.map IA:=λ i e' h=>by
   rw[ja]at h;cases hi:es[i]? with
   | none=>simp [hi]at h
   | some e=>exact ⟨e,rfl,by simpa [hi] using h.symm⟩
  have qi : ∀ (e:u_) (j:Nat) (c':AV),(e.map IA)[j]? = some c' -> ∃ c,e[j]? = some c/\c'=IA c:=λ e j c' h=>by
   rw[ja]at h;cases hi:e[j]? with
   | none=>simp [hi]at h
   | some c=>exact ⟨c,rfl,by simpa [hi] using h.symm⟩
  have key:=Rd.sl (w:=w) (R:=R') true (es.map λ e:u_=>e.map IA) b o a8 cap u (by simpa using k7) hp (hR b hb h1) (by simpa using ae)
   (λ e' iq=>by
    obtain ⟨e,he,rfl⟩:=List.mem_map.1 iq;rw[Oc];exact hz e he)
   (λ i e' hi j c' hj=>by
    obtain ⟨e,he,rfl⟩:=az i e' hi;obtain ⟨c,Bq,rfl⟩:=qi e j c' hj;exact l9 i e he j c Bq)
   (λ i e' hi j c' hj=>by
    obtain ⟨e,he,rfl⟩:=az i e' hi;obtain ⟨c,Bq,rfl⟩:=qi e j c' hj;exact ih i e he j c Bq (M7 (dR hc i e he) j c Bq))
  rw[Oc]at key;rw[IA,Tg];exact key
theorem Agt {C:Cl} (hC:HW P num C) (hm:BW B S w0 m) (hs:CZ B S m ρ a.eval) {f:Nat} {n0:List AU} (h:BI P num o.op (.j6 f n0)=true) (hq:(n0.map ρ).all dq=true) {r:AV} (hr:C.pure f ((n0.map ρ).map zu)=some r) (Oj:KY r\/VT r):C4 B S w0 P o a m (.val (NF r)):=by
 obtain ⟨xs,ts,k6,he⟩:=oG (Aj4 h);obtain ⟨hl,hx⟩:=WG hs he;have gp:(xs.map a.eval)=(xs.toList.map a.eval).toArray:=by cases xs;simp
 have hR : ∀ l b,b<m.w.heap.size->safe B S m l b -> ∀ l',safe m.w.heap.size (safe B S m true) ⟨λ_ _=>none,AJ.emp,m.w⟩ l' b:=λ l b hb h l' => .inl ⟨qE h,hb⟩
 have hcell : ∀ (c:AV) (v:Value),CC B S m c v->HE c=true->Rd m.w (safe m.w.heap.size (safe B S m true) ⟨λ_ _=>none,AJ.emp,m.w⟩) (ZE c) v:=λ c v hc hd=>by
  cases hc with
  | rd hr=>exact hr.to1 hR hd
  | nil=>exact .ka false none 0
  | row=>simp [HE]at hd
  | ptr=>simp [HE]at hd
  | s9=>simp [HE]at hd
 have kz : ∀ (j:Nat) (c:AV) (v:Value),((n0.map ρ).map zu)[j]? = some c->(xs.toList.map a.eval)[j]? = some v->CA m.w.heap.size (safe B S m true) ⟨λ_ _=>none,AJ.emp,m.w⟩ c v:=by
  intro j c v hc vj;rw[ja,ja]at hc;rw[ja]at vj;cases kp:xs.toList[j]? with
  | none=>simp [kp]at vj
  | some x =>
   cases qa:n0[j]? with
   | none=>simp [qa]at hc
   | some y =>
    simp [kp]at vj;simp [qa]at hc;subst vj hc;have w5:=hx j x y kp qa;have hd:dq (ρ y)=true:=fb.1 hq _ (List.mem_map_of_mem (zM qa));generalize ρ y=cy at w5 hd ⊢;generalize a.eval x=vx at w5 ⊢;cases w5 with
    | any=>simp [dq,HE]at hd
    | c5=>simp [dq,HE]at hd
    | ca ni =>
     cases ni with
     | one Nq =>
      have oh:HE cy=true/\zu cy=ZE cy:=by
       cases Nq with
       | rd hr=>cases hr<;>exact ⟨hd,rfl⟩
       | _=>exact ⟨hd,rfl⟩
      rw[oh.2];exact .one (.rd (hcell _ _ Nq oh.1))
     | agg cs vs l9 =>
      refine .agg (cs.map ZE) vs ⟨by simpa using l9.1,λ k c' v' o7 ij => ?_⟩;rw[ja]at o7;cases lf:cs[k]? with
      | none=>simp [lf]at o7
      | some c0 =>
       simp [lf]at o7;subst o7;exact .rd (hcell c0 v' (l9.2 k c0 v' lf ij) (fb.1 hd _ (zM lf)))
     | fn=>simp [dq,HE]at hd
     | ux=>simp [dq,HE]at hd
 have ga:=hC.pure f _ r hr (safe B S m true) m.w (xs.toList.map a.eval) (by simp [hl]) kz;intro K Q hK;unfold Oper.wp;rw[iR k6 (hC.vz f _ r hr _ _),gp];refine Calls.mono ga λ e w' ⟨u,iq,jr,w5,l9⟩ => ?_
 subst iq;obtain ⟨nj,gm⟩:=grow hm jr;refine hK u ⟨m.ν,m.own,w'⟩ rfl nj gm ?_;have jo : ∀ b,b<w'.heap.size->safe m.w.heap.size (safe B S m true) ⟨λ_ _=>none,AJ.emp,w'⟩ false b->safe B S ⟨m.ν,m.own,w'⟩ true b:=λ b hb Av=>by
  rcases Av with ⟨h1,h2⟩|⟨h1,_⟩|⟨h1,_⟩
  ·exact gm.Cr true b h2 h1
  ·refine .inr (.inl ⟨Db hm.size h1,λ s t iw hg => ?_⟩)
   obtain ⟨b',k8⟩:=Fa.1 iw;obtain ⟨_,arr,e,hh⟩:=hm.ge ⟨b',k8⟩ hg;have:=(sa.1 hh).1
   omega
  ·cases h1
 by_cases dp:KY r
 ·rw[oP dp]
  rcases lM w5 l9 with po|⟨cs,vs,rfl,_⟩
  ·rcases po with ko|⟨cs,vs,rfl,rfl,eo,hh⟩
   ·have e1:Bc r=aT r/\ZN r:=by cases ko<;>exact ⟨rfl,dp⟩
    rw[show CI.valOf (.val (Bc r)) m.own=Bc r from rfl,e1.1];exact .ca (.one (.rd (ko.Bg jo l9 e1.2)))
   ·unfold A3 at l9
    refine .ca (.agg (cs.map aT) vs ⟨by simpa using eo,λ k c' v' o7 ij => ?_⟩);rw[ja]at o7;cases lf:cs[k]? with
    | none=>simp [lf]at o7
    | some c0 =>
     simp [lf]at o7;subst o7;exact .rd ((hh k c0 v' lf ij).Bg jo (M7 l9 k c0 lf) (dp c0 (zM lf)))
  ·exact dp.elim
 ·rw[oO dp]
  have hd:=Oj.resolve_left dp;have iz : ∀ {r:AV} {v:Value},DA w' (safe m.w.heap.size (safe B S m true) ⟨λ_ _=>none,AJ.emp,w'⟩) r v->A3 r->CA B S ⟨m.ν,m.own,w'⟩ (JU r) v:=λ{r v} po l9=>by
   rcases po with ko|⟨cs,vs,rfl,rfl,eo,hh⟩
   ·have e1:JU r=IA r:=by cases ko<;>rfl
    rw[e1];exact .one (.rd (ko.Bh jo l9))
   ·unfold A3 at l9
    rw[show JU (.agg cs) = .agg (NE cs) from rfl,oM];refine .agg (cs.map IA) vs ⟨by simpa using eo,λ k c' v' o7 ij => ?_⟩;rw[ja]at o7;cases lf:cs[k]? with
    | none=>simp [lf]at o7
    | some c0 =>
     simp [lf]at o7;subst o7;exact .rd ((hh k c0 v' lf ij).Bh jo (M7 l9 k c0 lf))
  rcases lM w5 l9 with po|⟨cs,vs,rfl,rfl,eo,hh⟩
  ·have e1:L4 r=JU r:=by
    rcases po with ko|⟨cs,vs,rfl,_⟩
    ·cases ko<;>rfl
    ·rfl
   rw[show CI.valOf (.val (L4 r)) m.own=L4 r from rfl,e1];exact .ca (iz po l9)
  ·unfold A3 at l9
   rw[show CI.valOf (.val (L4 (.c5 cs))) m.own = .c5 (cs.map JU) from rfl];refine .c5 (cs.map JU) vs (by simpa using eo) λ k c' v' o7 ij => ?_
   rw[ja]at o7;cases lf:cs[k]? with
   | none=>simp [lf]at o7
   | some c0 =>
    simp [lf]at o7;subst o7;exact iz (hh k c0 v' lf ij) (M7 l9 k c0 lf)
end
end Go.c6

namespace Go.c6
open Go.RowKit
section
variable {B:Nat} {S:Nat->Prop} {w0:World} {m:M}
variable {P:Program} {num:Nat->Nat} {o:Oper} {a:Act} {ρ:AU->AV} {C:Cl} {b7:N'}
theorem AgM (hm:BW B S w0 m) (hs:CZ B S m ρ a.eval) {mx:Bool} {n0:List AU} (h:BI P num o.op (.mm mx n0)=true) {v r:AV} {l:u_} (hx:n0.map ρ=v::l) (hv:L6 mx v l=some r):C4 B S w0 P o a m (.val r):=by
 by_cases hi : ∃ k n,v = .int k n
 ·exact AgL hm hs h hx hv hi
 ·cases l with
  | cons u q =>
   simp only[L6]at hv;exfalso;cases v<;>first|(exact hi ⟨_,_,rfl⟩)|(simp [Q5]at hv)
  | nil =>
   simp only[L6,za]at hv;subst hv;obtain ⟨xs,ts,k6,he⟩:=Ui h;cases n0 with
   | nil=>simp at hx
   | cons y yr =>
    simp only[Pb,xd,List.map_eq_nil_iff]at hx;obtain ⟨rfl,rfl⟩:=hx;obtain ⟨xl⟩:=xs;cases xl with
    | nil=>simp [EV]at he
    | cons x xr =>
     simp only[EV,ya]at he;cases xr with
     | cons=>simp [EV]at he
     | nil =>
      refine EU hm (u:=a.eval x) ?_ (hs x y he.1);cases mx<;>simp [execOp,k6,resolve,invoke,builtin,Builtin.min_,Builtin.max_]
theorem zV (o:AJ) (l:N') (s t:Nat) (b:EP) (h:(o.m7 l).get s t=some b):o.get s t=some b:=by
 induction l with
 | nil=>exact h
 | cons x r ih =>
  unfold AJ.get AJ.m7 at h;by_cases hs:s=x
  ·simp [hs]at h
  ·simp only[if_neg hs]at h
   exact ih h
theorem Akw {o:AJ} {l:N'} {s t i j n:Nat} {cs:u_} (h:(o.m7 l).rh s t i j n=some cs):o.rh s t i j n=some cs:=by
 unfold AJ.rh at *;cases hg:(o.m7 l).get s t with
 | none=>simp [hg]at h
 | some b =>
  rw[zV o l s t b hg];simpa [hg] using h
theorem Ahg {o:AJ} {l:N'} {v:AV} {es:o_} (h:FO (o.m7 l) v=some es):FO o v=some es:=by
 cases v with
 | cp v=>cases v<;>exact h
 | row s t z off len =>
  simp only[FO]at h ⊢;cases hg:(o.m7 l).get s t with
  | none=>simp [hg]at h
  | some b =>
   rw[zV o l s t b hg];simpa [hg] using h
 | _=>exact h
theorem YS {α β:Type} {f g:α->Option β} (hfg : ∀ x y,f x=some y->g x=some y) : ∀ {l:List α} {l':List β},l.mapM f=some l'->l.mapM g=some l'
 | [],l',h=>by simpa using h
 | x::r,l',h=>by
  simp only[Da,Ba,vb]at h ⊢;cases hx:f x with
  | none=>simp [hx]at h
  | some y =>
   cases hr:r.mapM f with
   | none=>simp [hx,hr]at h
   | some r' =>
    simp [hx,hr]at h;simp [hfg x y hx,YS hfg hr,h]
theorem qQ (o:AJ) (l:N') (b:Bool) : ∀ (d:Nat) (c c':AV),snap (o.m7 l) b d c=some c'->snap o b d c=some c'
 | 0,c,c',h=>by cases c<;>simp_all [snap]
 | d+1,c,c',h=>by
  cases c<;>first|(simp_all [snap];done)|skip
  rename_i s t z off len;simp only[snap]at h ⊢;cases he:FO (o.m7 l) (.row s t z off len) with
  | none=>simp [he]at h
  | some es =>
   simp only[he]at h;rw[Ahg he];simp only[ua]at h ⊢;obtain ⟨es',h1,h2⟩:=h;exact ⟨es',YS (λ x y hx=>YS (qQ o l b d) hx) h1,h2⟩
theorem Zg (o:AJ) (l:N') (b:Bool) (c c':AV) (h:DE (o.m7 l) b c=some c'):DE o b c=some c':=by
 cases c<;>first|exact qQ o l b 6 _ _ h|skip
 simp only[DE,ua]at h ⊢;obtain ⟨cs,h1,h2⟩:=h;exact ⟨cs,YS (qQ o l b 6) h1,h2⟩
theorem AmL (o:AJ) (l:N') (b:Bool) (c c':AV) (h:P2 (o.m7 l) b c=some c'):P2 o b c=some c':=by
 rcases Classical.em (c = .nil) with rfl|hc
 ·exact h
 ·have e : ∀ o:AJ,P2 o b c=DE o b c:=λ o=>by cases c<;>first|rfl|exact (hc rfl).elim
  rw[e]at h ⊢;exact Zg o l b _ _ h
theorem AkJ {o:AJ} {l:N'} {b:Bool} {xs vs:u_} (h:xs.mapM (P2 (o.m7 l) b)=some vs):xs.mapM (P2 o b)=some vs:=YS (AmL o l b) h
theorem AkH {o:AJ} {l:N'} {b:Bool} {xs vs:u_} (h:xs.mapM (DE (o.m7 l) b)=some vs):xs.mapM (DE o b)=some vs:=YS (Zg o l b) h
theorem Am0 {own m4:AJ} {s t i j:Nat} {vs:u_} (h:own.na s t i j vs=some m4):own.put s (m4 s)=m4:=by
 unfold AJ.na at h;cases hg:own.get s t with
 | none=>simp [hg]at h
 | some b =>
  simp only[hg]at h;cases he:b.es[i]? with
  | none=>simp [he]at h
  | some cs =>
   simp only[he]at h;split at h
   ·obtain rfl:=oa h
    rw[AJ.j7]
   ·cases h
theorem Ahe (hC:HW P num C) (hm:BW B S w0 m) (hs:CZ B S m ρ a.eval) {Em:EI} (g6:BI P num o.op Em=true) {E:CI} (h:c8 C b7 ρ m.own Em=some E):C4 B S w0 P o a m E:=by
 cases Em with
 | m5 x=>simp only[c8,za]at h;subst h;exact AgN hm hs g6
 | v5 s z=>simp only[c8,za]at h;subst h;exact AgT hm g6
 | pick c x y =>
  simp only[c8]at h;split at h
  ·rename_i hc;simp only[za]at h;subst h;exact vQ hm hs g6 hc
  ·rename_i hc;simp only[za]at h;subst h;exact vQ hm hs g6 hc
  ·cases h
 | bin f x y =>
  simp only[c8]at h;split at h
  ·rename_i k n k' n' hx hy
   simp only[ua]at h;obtain ⟨v,hv,rfl⟩:=h;exact Agm hm hs g6 hx hy hv
  ·cases h
 | tk ne n x y =>
  simp only[c8]at h;split at h
  ·rename_i cs ds hx hy
   split at h
   ·rename_i a b ha hb
    split at h
    ·rename_i hn
     simp only[za]at h;subst h;exact Agg hm hs g6 hx hy ha hb hn
    ·cases h
   ·cases h
  ·cases h
 | beq ne x y =>
  simp only[c8]at h;split at h
  ·rename_i b b' hx hy
   simp only[za]at h;subst h;exact Agl hm hs g6 hx hy
  ·cases h
 | un f x =>
  simp only[c8,ua]at h;obtain ⟨v,hv,rfl⟩:=h;exact AgS hm hs g6 hv
 | conv k x =>
  simp only[c8]at h;split at h
  ·rename_i k' n hx
   simp only[za]at h;subst h;exact Agx hm hs g6 hx
  ·cases h
 | box s x =>
  simp only[c8]at h;split at h
  ·rename_i cs dh
   simp only[za]at h;subst h;exact Agn hm hs g6 dh
  ·cases h
 | alloc s z=>simp only[c8,za]at h;subst h;exact Agh hm g6
 | build z ps =>
  simp only[c8,ua]at h;obtain ⟨cs,dh,rfl⟩:=h;exact Agp hm hs g6 dh
 | a7 s a8 ps =>
  simp only[c8]at h;split at h
  ·rename_i es jt
   split at h
   ·rename_i hz
    simp only[za]at h;subst h;exact Ago hm hs g6 jt hz
   ·cases h
  ·cases h
 | j4 x off =>
  simp only[c8]at h;split at h
  ·rename_i s t i j hx
   simp only[za]at h;subst h;exact AgA hm hs g6 hx
  ·rename_i cs hx
   simp only[za]at h;subst h;exact Agz hm hs g6 hx
  ·cases h
 | pn x off n agg =>
  simp only[c8]at h;split at h
  ·rename_i cs hx
   split at h
   ·rename_i ds hp
    simp only[ua]at h;obtain ⟨v,hv,rfl⟩:=h;exact AgB hm hs g6 hx hp hv
   ·cases h
  ·cases h
 | u6 arr a8 x i =>
  simp only[c8]at h;split at h
  ·rename_i k n hi
   split at h
   ·rename_i len s t i' j hx
    split at h
    ·rename_i hn
     simp only[za]at h;subst h;exact AgC hm hs g6 hi hx hn.1 hn.2
    ·cases h
   ·rename_i len cs hx
    split at h
    ·rename_i hn
     simp only[za]at h;subst h;exact AgD hm hs g6 hi hx hn.1 hn.2
    ·cases h
   ·rename_i s t z off len hx
    split at h
    ·rename_i hn
     simp only[za]at h;subst h;exact AgE hm hs g6 hi hx hn.1 hn.2.1 hn.2.2
    ·cases h
   ·rename_i l es hx
    split at h
    ·rename_i h0
     split at h
     ·rename_i cs dh
      split at h
      ·rename_i hz
       simp only[za]at h;subst h;exact AgF hm hs g6 hi hx h0 dh hz
      ·cases h
     ·cases h
    ·cases h
   ·cases h
  ·cases h
 | ld agg n x =>
  simp only[c8]at h;split at h
  ·rename_i s t i j hx
   split at h
   ·rename_i cs dh
    simp only[ua]at h;obtain ⟨v,hv,rfl⟩:=h;exact AgG hm hs g6 hx (Akw dh) hv
   ·cases h
  ·rename_i cs hx
   split at h
   ·rename_i ds hp
    simp only[ua]at h;obtain ⟨v,hv,rfl⟩:=h;exact vP hm hs g6 hx hp hv
   ·cases h
  ·cases h
 | vm agg n x =>
  simp only[c8]at h;split at h
  ·rename_i cs hx
   split at h
   ·rename_i ds hp
    simp only[ua]at h;obtain ⟨v,hv,rfl⟩:=h;exact vP hm hs (show BI P num _ (.ld agg n x)=true from g6) hx hp hv
   ·cases h
  ·cases h
 | st n x v =>
  simp only[c8]at h;split at h
  ·rename_i s t i j vs hx ik
   split at h
   ·rename_i hn
    simp only[ua]at h;obtain ⟨m4,ho,rfl⟩:=h;exact vU hm hs g6 hx ik hn ho
   ·cases h
  ·cases h
 | mk s a8 bytes zero l c =>
  simp only[c8]at h;split at h
  ·rename_i kl a' kc b' hl hc
   split at h
   ·rename_i hn
    simp only[za]at h;subst h;exact AgI hm hs g6 hl hc hn.1 hn.2.1 hn.2.2.1 hn.2.2.2.1 hn.2.2.2.2
   ·cases h
  ·cases h
 | di a8 x lo hi =>
  simp only[c8]at h;have bnd : ∀ (d:Nat) (y:Option AU) (q:Nat),(match y with|none=>some d|some o=>match ρ o with | .int _ n=>if 0<=n/\n<=d then some n.toNat else none|_=>none)=some q -> ∃ n:Int,IL ρ d y=some n/\0<=n/\n<=d/\q=n.toNat:=λ d y q hq=>by
   cases y with
   | none=>simp only[za]at hq;subst hq;exact ⟨d,rfl,O',O',Z'⟩
   | some y =>
    simp only at hq;cases hy:ρ y with
    | int k n =>
     simp only[hy]at hq;split at hq
     ·rename_i hn
      simp only[za]at hq;subst hq;exact ⟨n,by simp [IL,hy],hn.1,hn.2,rfl⟩
     ·cases hq
    | _=>simp [hy]at hq
  have Ge : ∀ (y:Option AU) (q:Nat),(match y with|none=>some 0|some o=>match ρ o with | .int _ n=>if 0<=n then some n.toNat else none|_=>none)=some q -> ∃ n:Int,IL ρ 0 y=some n/\0<=n/\q=n.toNat:=λ y q hq=>by
   cases y with
   | none=>simp only[za]at hq;subst hq;exact ⟨0,rfl,O',Z'⟩
   | some y =>
    simp only at hq;cases hy:ρ y with
    | int k n =>
     simp only[hy]at hq;split at hq
     ·rename_i hn
      simp only[za]at hq;subst hq;exact ⟨n,by simp [IL,hy],hn,rfl⟩
     ·cases hq
    | _=>simp [hy]at hq
  have Gf : ∀ (y:Option AU) (q:Nat),(match y with|none=>some 0|some o=>match ρ o with | .int _ n=>if n=0 then some 0 else none|_=>none)=some q->IL ρ 0 y=some 0:=λ y q hq=>by
   cases y with
   | none=>rfl
   | some y =>
    simp only at hq;cases hy:ρ y with
    | int k n =>
     simp only[hy]at hq;split at hq
     ·rename_i hn
      subst hn;simp [IL,hy]
     ·cases hq
    | _=>simp [hy]at hq
  split at h
  ·rename_i l es hx
   split at h
   ·rename_i q1 q2 h1 h2
    split at h
    ·rename_i hq
     simp only[za]at h;subst h;obtain ⟨n1,b1,c1,rfl⟩:=Ge _ _ h1;obtain ⟨n2,b2,c2,c3,rfl⟩:=bnd _ _ _ h2;exact AgR hm hs g6 hx b1 b2 c1 O' c3 hq.2
    ·cases h
   ·cases h
  ·rename_i hx
   split at h
   ·rename_i q1 q2 h1 h2
    simp only[za]at h;subst h;exact AgP hm hs g6 hx (Gf _ _ h1) (Gf _ _ h2)
   ·cases h
  ·rename_i s t z off len hx
   split at h
   ·rename_i q1 q2 h1 h2
    split at h
    ·rename_i hq
     simp only[za]at h;subst h;obtain ⟨n1,b1,c1,rfl⟩:=Ge _ _ h1;obtain ⟨n2,b2,c2,c3,rfl⟩:=bnd _ _ _ h2;exact AgQ hm hs g6 hx b1 b2 c1 O' c3 hq.2
    ·cases h
   ·cases h
  ·cases h
 | ext x i =>
  simp only[c8]at h;split at h
  ·rename_i vs hx
   simp only[ua]at h;obtain ⟨v,hv,rfl⟩:=h;exact Agy hm hs g6 hx hv
  ·cases h
 | len x =>
  simp only[c8]at h;split at h
  ·rename_i n hn
   simp only[za]at h;subst h;exact AgH hm hs g6 hn
  ·cases h
 | mm mx xs =>
  simp only[c8]at h;split at h
  ·cases h
  ·rename_i v r hx
   simp only[ua]at h;obtain ⟨q,hq,rfl⟩:=h;exact AgM hm hs g6 hx hq
 | app s a8 bytes x y =>
  simp only[c8]at h;split at h
  ·rename_i ys yf
   split at h
   ·rename_i hz
    split at h
    ·rename_i s' t z len hx
     split at h
     ·rename_i b hb
      split at h
      ·rename_i hn
       obtain ⟨n1,rfl,n3,n4,n5⟩:=hn;simp only[za]at h;subst h;exact Agj hm hs g6 yf hz hx hb n1 n3 n4 n5
      ·cases h
     ·cases h
    ·rename_i hx
     split at h
     ·rename_i hn
      simp only[za]at h;subst h;exact Agi hm hs g6 yf hz hx hn.1 hn.2
     ·cases h
    ·cases h
   ·cases h
  ·cases h
 | call f xs =>
  simp only[c8]at h;split at h
  ·rename_i vs ik
   simp only[ua]at h;obtain ⟨r,hr,rfl⟩:=h;exact Agq hC hm hs g6 (AkH ik) hr
  ·cases h
 | c7 f xs =>
  simp only[c8]at h;split at h
  ·simp only[ua]at h
   obtain ⟨r,hr,rfl⟩:=h;exact mD hC hm hs g6 ((dL hr).2 m.own λ_ _=>rfl)
  ·simp only[ua]at h
   obtain ⟨r,hr,rfl⟩:=h;exact mD hC hm hs g6 hr
 | uq ne x =>
  simp only[c8]at h;split at h
  ·rename_i hx
   simp only[za]at h;subst h;exact eG hm hs g6 (b:=true) λ v hv=>by rw[hx]at hv;exact ⟨none,0,0,SC hv,rfl⟩
  ·rename_i b hx
   simp only[za]at h;subst h;exact eG hm hs g6 (b:=b) λ v hv=>by
    rw[hx]at hv;obtain ⟨ad,c,h1,h2⟩:=uY hv;exact ⟨ad,0,c,h1,h2⟩
  ·rename_i hx
   simp only[za]at h;subst h;exact eG hm hs g6 (b:=false) λ v hv=>by rw[hx]at hv;exact AfU hv
  ·rename_i hx
   simp only[za]at h;subst h;exact eG hm hs g6 (b:=false) λ v hv=>by rw[hx]at hv;exact AfT hv
  ·cases h
 | bad =>
  have h:(none:Option CI)=some E:=h;cases h
 | fx x =>
  simp only[c8]at h;split at h
  ·rename_i hx
   simp only[za]at h;subst h;exact Agw hm hs g6 hx
  ·cases h
 | cg s f xs =>
  simp only[c8,ua]at h;obtain ⟨p,hp,rfl⟩:=h;exact mD hC hm hs (Aj6 g6) (dN.1 hp m.own rfl)
 | pg s a8 bytes x y =>
  simp only[c8]at h;split at h
  ·rename_i k n hx hy
   split at h
   ·rename_i hn
    simp only[za]at h;subst h;exact Agk hm hs g6 hx hy hn.1 hn.2.1 hn.2.2
   ·cases h
  ·cases h
 | gx tb x =>
  simp only[c8]at h;split at h
  ·rename_i k n hx
   split at h
   ·rename_i h0
    split at h
    ·rename_i v hv
     simp only[za]at h;subst h;exact AgO hm hs g6 hx h0 hv
    ·cases h
   ·cases h
  ·cases h
 | ri p f xs =>
  simp only[c8,ua]at h;obtain ⟨cs,dh,rfl⟩:=h;rw[hC.num];exact AgK hm hs g6 dh
 | ti f x =>
  simp only[c8]at h;split at h
  ·rename_i c cs hx
   simp only[za]at h;subst h;rw[hC.num];exact AgJ hm hs g6 hx
  ·cases h
 | j6 f xs =>
  simp only[c8]at h;split at h
  ·rename_i hq
   split at h
   ·rename_i r hr
    split at h
    ·rename_i dp
     simp only[za]at h;subst h;exact Agt hC hm hs g6 hq hr dp
    ·cases h
   ·cases h
  ·cases h
 | n7 s f xs =>
  simp only[c8]at h;split at h
  ·rename_i vs ik
   simp only[ua]at h;obtain ⟨⟨z,es⟩,hr,rfl⟩:=h;exact Agu hC hm hs g6 (AkJ ik) hr
  ·cases h
 | pe s n x v =>
  simp only[c8]at h;split at h
  ·rename_i s' t i j vs hx ik
   split at h
   ·rename_i hn
    obtain ⟨rfl,hn⟩:=hn;simp only[ua]at h;obtain ⟨m4,ho,rfl⟩:=h;have:=vU hm hs (Akk g6) hx ik hn ho
    intro K Q hK;refine this K Q λ u m' h1 h2 h3 h4=>hK u m' ?_ h2 h3 h4
    rw[h1];exact (Am0 ho).symm
   ·cases h
  ·cases h
 | m9 x xs =>
  simp only[c8]at h;split at h
  ·rename_i p f g cs hx
   split at h
   ·rename_i hg
    rw[hC.num]at hg;subst hg;split at h
    ·split at h
     ·rename_i vs ik
      simp only[ua]at h;obtain ⟨r,hr,rfl⟩:=h;exact Ags hC hm hs g6 hx ik hr
     ·cases h
    ·simp only[ua]at h
     obtain ⟨r,hr,rfl⟩:=h;exact Agv hC hm hs g6 hx hr
    ·split at h
     ·rename_i vs ik
      simp only[ua]at h;obtain ⟨r,hr,rfl⟩:=h;exact Agr hC hm hs g6 hx ik hr
     ·cases h
   ·cases h
  ·cases h
end
end Go.c6

namespace Go.c6
open Go.RowKit
def E6 (T:Nat->AV):AU->AV
 | .t n=>T n
 | .c v=>v
def KU (T:Nat->AV) (d:Option Nat) (v:AV):Nat->AV:=λ j=>if d=some j then v else T j
def ND (T:Nat->AV):Option (Nat × Bool)->Option Bool
 | none=>some true
 | some (g,want)=>match T g with
  | .bool b=>some (b == want)
  | .c5 []=>some false
  | _=>none
theorem xD (st:St):st.ev=E6 (e9 st.tm):=by funext x;cases x<;>rfl
theorem Ajl (st:St) (g:Option (Nat × Bool)):GD st g=ND (e9 st.tm) g:=rfl
theorem wB (st:St) (d:Option Nat) (v:AV):e9 (st.dst d v).tm=KU (e9 st.tm) d v:=by
 cases d with
 | none=>funext j;simp [St.dst,KU]
 | some d =>
  funext j
  simp only[St.dst,KU,cH];by_cases h:j=d
  ·simp [h]
  ·simp [h,Ne.symm h]
theorem Ae5 (st:St) (d:Option Nat) (E:CI):e9 (st.app d E).tm=KU (e9 st.tm) d (E.valOf st.own):=by
 cases E<;>simp only[St.app,CI.valOf]<;>exact wB st d _
theorem wC (st:St) (d:Option Nat) (v:AV):(st.dst d v).own=st.own:=by cases d<;>rfl
theorem Ae4 (st:St) (d:Option Nat) (E:CI):(st.app d E).own=E.w8 st.own:=by
 cases E with
 | val v=>simp only[St.app,CI.w8];exact wC st d v
 | _=>rfl
section
variable {B:Nat} {S:Nat->Prop} {w0:World} {m0:M} {N:Nat}
variable {P:Program} {num:Nat->Nat} {C:Cl} {Q:Exit->Act->World->Prop}
structure GQ (B:Nat) (S:Nat->Prop) (w0:World) (m0:M) (N:Nat) (T:Nat->AV) (m:M) (a:Act):Prop where
 mem:BW B S w0 m
 ext:DY B S m0 m
 tm : ∀ i,CV B S m (T i) (a.tmps.getD i undef)
 size:a.tmps.size=N
 defers:a.defers=[]
theorem GQ.put {T:Nat->AV} {m m':M} {a:Act} (h:GQ B S w0 m0 N T m a) (d:Option Nat) (hd : ∀ k,d=some k->k<N) {v:AV} {u:Value} (hm:BW B S w0 m') (he:DY B S m m') (hc:CV B S m' v u):GQ B S w0 m0 N (KU T d v) m' (a.put d u):=by
 refine ⟨hm,h.ext.trans he,λ i => ?_,?_,?_⟩
 ·cases d with
  | none=>simpa [KU,Act.put] using he.cv (h.tm i)
  | some k =>
   have hk:k<a.tmps.size:=by rw[h.size];exact hd k rfl
   by_cases ou:i=k
   ·subst ou
    simp only[KU,if_true,Act.put];simpa [zb,hk] using hc
   ·have k7 : ¬ (some k=some i):=λ e=>ou (by simpa using e.symm)
    simp only[KU,if_neg k7,Act.put];have:(a.tmps.setIfInBounds k u).getD i undef=a.tmps.getD i undef:=by
     simp [Array.getElem?_setIfInBounds_ne (Ne.symm ou)]
    rw[this];exact he.cv (h.tm i)
 ·cases d<;>simp [Act.put,h.size]
 ·cases d<;>simpa [Act.put] using h.defers
theorem GQ.says {T:Nat->AV} {m:M} {a:Act} (h:GQ B S w0 m0 N T m a):CZ B S m (E6 T) a.eval:=Amr (λ_=>rfl) (λ_=>rfl) h.tm
theorem Anz {T:Nat->AV} {m:M} {a:Act} (h:GQ B S w0 m0 N T m a) {ops:Array Oper} {o:Oper} {g':Option (Nat × Bool)} (hg:aX ops o.guard g'=true) {g:Bool} (ud:ND T g'=some g):Region.wanted o (yielded ops a.tmps)=g:=by
 unfold Region.wanted;cases Px:o.guard with
 | none =>
  cases g' with
  | none=>simp [ND]at ud;simp [ud]
  | some _=>simp [aX,Px]at hg
 | some jw =>
  obtain ⟨j,want⟩:=jw;cases g' with
  | none=>simp [aX,Px]at hg
  | some tw =>
   obtain ⟨t,Ao6⟩:=tw;simp only[aX,Px,ya,beq_iff_eq]at hg;obtain ⟨rfl,hg⟩:=hg;split at hg
   ·rename_i oj Kz
    have Ob:oj.dst=some t:=by simpa using hg
    have w5:=h.tm t;simp only[ND]at ud;unfold yielded;simp only[Kz,Ad,Ob];split at ud
    ·rename_i b hb
     rw[hb]at w5;have hv:=V8 w5;have n6:a.tmps[t]? = some (.bool b):=by
      cases ht:a.tmps[t]? with
      | none=>simp [ht,undef]at hv
      | some x=>simp [ht]at hv;rw[hv]
     simp only[n6];simp at ud;rw[<-ud];cases b<;>cases want<;>rfl
    ·rename_i hb
     rw[hb]at w5;obtain ⟨vs,hv,hl,_⟩:=lN w5;have:vs=[]:=ea (by simpa using hl.symm)
     subst this;simp at ud;subst ud;cases ht:a.tmps[t]? with
     | none=>rfl
     | some x =>
      simp [ht]at hv;subst hv;rfl
    ·cases ud
   ·cases hg
theorem Zx (hC:HW P num C) {ops:Array Oper} {i:Nat} {o:Oper} {ai:AI} (hi:ops[i]? = some o) (g6:gY P num N ops o ai=true) {T:Nat->AV} {m:M} {a:Act} (hf:GQ B S w0 m0 N T m a) {g:Bool} (hg:ND T ai.guard=some g) {E:CI}
  (hE:g=true->c8 C ai.b7 (E6 T) m.own ai.op=some E) {K:Act->World->Prop} (hK : ∀ m' a',m'.own=(if g then E.w8 m.own else m.own)->GQ B S w0 m0 N (KU T ai.dst (if g then E.valOf m.own else .c5 [])) m' a'->K a' m'.w):wpOp P ops Q i K a m.w:=by
 simp only[gY,ya,beq_iff_eq]at g6;obtain ⟨⟨⟨h1,h2⟩,h3⟩,h4⟩:=g6;have hd : ∀ k,o.dst=some k->k<N:=λ k hk=>by
  rw[h1]at hk;rw[hk]at h2;simpa using h2
 unfold wpOp;simp only[hi,Anz hf h3 hg];cases g with
 | true =>
  simp only[if_true];refine .inl (Ahe hC hf.mem hf.says h4 (hE rfl) K Q λ u m' j8 nj gm w5 => ?_);refine hK m' _ (by simpa using j8) ?_;rw[<-h1];exact hf.put o.dst hd nj gm w5
 | false =>
  simp only[Ma,if_false];refine hK m _ Z' ?_;rw[<-h1];exact hf.put o.dst hd hf.mem (DY.refl m) Sa
theorem Xq {o:AI} {st j5:St} (h:DB C o st=some j5) : ∃ g E,ND (e9 st.tm) o.guard=some g/\(g=true->c8 C o.b7 (E6 (e9 st.tm)) st.own o.op=some E)/\e9 j5.tm=KU (e9 st.tm) o.dst (if g then E.valOf st.own else .c5 [])/\j5.own=(if g then E.w8 st.own else st.own):=by
 unfold DB at h;rw[Ajl]at h;cases hg:ND (e9 st.tm) o.guard with
 | none=>simp [hg]at h
 | some g =>
  cases g with
  | true =>
   simp only[hg,ua]at h;obtain ⟨E,hE,rfl⟩:=h;rw[xD]at hE;exact ⟨true,E,rfl,λ_=>hE,Ae5 st o.dst E,Ae4 st o.dst E⟩
  | false =>
   simp only[hg,za]at h;subst h;exact ⟨false,.val .any,rfl,λ h=>(by cases h),wB st o.dst _,wC st o.dst _⟩
theorem aY {ops:Array Oper} : ∀ {os:List Oper} {l:List AI},Q8 P num N ops os l=true->os.length=l.length /\ ∀ (i:Nat) (o:Oper) (x:AI),os[i]? = some o->l[i]? = some x->gY P num N ops o x=true
 | [],[],_=>⟨rfl,λ i o x h=>by simp at h⟩
 | o::r,x::l,h=>by
  simp only[Q8,ya]at h;obtain ⟨h1,h2⟩:=aY h.2;refine ⟨by simp [h1],λ i o' x' ho hx => ?_⟩;cases i with
  | zero=>simp at ho hx;subst ho hx;exact h.1
  | succ i=>exact h2 i o' x' (by simpa using ho) (by simpa using hx)
 | [],_::_,h=>by simp [Q8]at h
 | _::_,[],h=>by simp [Q8]at h
theorem Zy (hC:HW P num C) {ops:Array Oper} {l:List AI} (g6:Q8 P num N ops ops.toList l=true) : ∀ (n k:Nat) (st j5:St) (m:M) (a:Act),n+k=ops.size->DJ C (l.drop k) st=some j5->m.own=st.own->GQ B S w0 m0 N (e9 st.tm) m a ->
  (∀ m' a',m'.own=j5.own->GQ B S w0 m0 N (e9 j5.tm) m' a'->Q .normal a' m'.w)->wpOps P ops Q (List.range' k n) a m.w
 | 0,k,st,j5,m,a,hk,hs,j8,hf,hQ=>by
  have hl:=(aY g6).1;simp at hl;rw[List.drop_eq_nil_of_le O']at hs;simp only[DJ,za]at hs;subst hs;simpa [wpOps] using hQ m a j8 hf
 | n+1,k,st,j5,m,a,hk,hs,j8,hf,hQ=>by
  obtain ⟨hl,hg⟩:=aY g6;simp at hl;have pq:k<l.length:=O'
  have hko:k<ops.size:=O'
  rw[Qb pq]at hs;simp only[DJ]at hs;cases g9:DB C l[k] st with
  | none=>simp [g9]at hs
  | some BH =>
   simp only[g9]at hs;obtain ⟨g,E,h1,h2,h3,h4⟩:=Xq g9;rw[List.range'_succ,wpOps_cons];have hoi:ops[k]? = some ops[k]:=tc hko;refine Zx hC hoi (hg k ops[k] l[k] (by simp [hko]) (zE pq)) hf h1 (λ fk=>by rw[j8];exact h2 fk) λ m' a' lq om => ?_
   refine Zy hC g6 n (k+1) BH j5 m' a' O' hs ?_ ?_ hQ
   ·rw[lq,j8,h4]
   ·rw[j8]at om
    rw[h3];exact om
end
end Go.c6

namespace Go.c6
open Go.RowKit
section
variable {T T':Nat->AV} {C:Cl} {b7:N'} {own:AJ}
theorem DQ {x:AU} (h : ∀ t∈C6 x,T t=T' t):E6 T x=E6 T' x:=by
 cases x with
 | t n=>exact h n (by simp [C6])
 | c v=>rfl
theorem W3 {xs:List AU} (h : ∀ t∈xs.flatMap C6,T t=T' t):xs.map (E6 T)=xs.map (E6 T') :=
 Cd λ x hx=>DQ λ t ht=>h t (Rc.2 ⟨x,hx,ht⟩)
theorem Wt {x:Option AU} (h : ∀ t∈pL x,T t=T' t) {y:AU} (hy:x=some y):E6 T y=E6 T' y:=by
 subst hy;exact DQ h
theorem Ag9 {op:EI} (h : ∀ t∈IH op,T t=T' t):c8 C b7 (E6 T) own op=c8 C b7 (E6 T') own op:=by
 cases op with
 | build z ps =>
  simp only[c8];congr 2;refine Cd λ p hp => ?_
  rw[DQ (x:=p.2.2) λ t ht=>h t (by simp only[IH];exact Rc.2 ⟨p,hp,ht⟩)]
 | a7 s a8 ps =>
  have hm:ps.mapM (λ x=>cellsOf (E6 T x))=ps.mapM (λ x=>cellsOf (E6 T' x)):=by
   have e : ∀ l:List AU,(∀ x∈l,E6 T x=E6 T' x)->l.mapM (λ x=>cellsOf (E6 T x))=l.mapM (λ x=>cellsOf (E6 T' x)):=by
    intro l;induction l with
    | nil=>intro _;rfl
    | cons x r ih=>intro hl;simp only[Da];rw[hl x Z',ih λ y hy=>hl y (by simp [hy])]
   exact e ps λ x hx=>DQ λ t ht=>h t (by simp only[IH];exact Rc.2 ⟨x,hx,ht⟩)
  simp only[c8,hm]
 | mm mx xs=>simp only[c8];rw[W3 (xs:=xs) h]
 | call f xs=>simp only[c8];rw[W3 (xs:=xs) h]
 | c7 f xs=>simp only[c8];rw[W3 (xs:=xs) h]
 | uq ne x=>simp only[c8];rw[DQ (x:=x) h]
 | bad=>rfl
 | fx x=>simp only[c8];rw[DQ (x:=x) h]
 | pg s a8 bytes x y =>
  simp only[IH,Ha]at h;simp only[c8];rw[DQ (x:=x) λ t ht=>h t (.inl ht),DQ (x:=y) λ t ht=>h t (.inr ht)]
 | gx tb x=>simp only[c8];rw[DQ (x:=x) h]
 | ri p f xs =>
  have e : ∀ l:List AU,(∀ x∈l,E6 T x=E6 T' x)->l.mapM (λ x=>HS (E6 T x))=l.mapM (λ x=>HS (E6 T' x)):=by
   intro l;induction l with
   | nil=>intro _;rfl
   | cons x r ih=>intro hl;simp only[Da];rw[hl x Z',ih λ y hy=>hl y (by simp [hy])]
  simp only[c8];rw[e xs λ x hx=>DQ λ t ht=>h t (by simp only[IH];exact Rc.2 ⟨x,hx,ht⟩)]
 | ti f x=>simp only[c8];rw[DQ (x:=x) h]
 | j6 f xs=>simp only[c8];rw[W3 (xs:=xs) h]
 | n7 s f xs=>simp only[c8];rw[W3 (xs:=xs) h]
 | cg s f xs=>simp only[c8];rw[W3 (xs:=xs) h]
 | pe s n x v =>
  simp only[IH,Ha]at h;simp only[c8];rw[DQ (x:=x) λ t ht=>h t (.inl ht),DQ (x:=v) λ t ht=>h t (.inr ht)]
 | m9 x xs =>
  simp only[IH,Ha]at h;simp only[c8];rw[DQ (x:=x) λ t ht=>h t (.inl ht),W3 (xs:=xs) λ t ht=>h t (.inr ht)]
 | di a8 x lo hi =>
  simp only[IH,Ha]at h;have hx:E6 T x=E6 T' x:=DQ λ t ht=>h t (.inl (.inl ht))
  have px : ∀ y,lo=some y->E6 T y=E6 T' y:=λ y hy=>Wt (λ t ht=>h t (.inl (.inr ht))) hy
  have Kr : ∀ y,hi=some y->E6 T y=E6 T' y:=λ y hy=>Wt (λ t ht=>h t (.inr ht)) hy
  simp only[c8,hx];cases lo with
  | none=>cases hi with
   | none=>rfl
   | some y=>simp only[Kr y rfl]
  | some z=>cases hi with
   | none=>simp only[px z rfl]
   | some y=>simp only[px z rfl,Kr y rfl]
 | v5=>rfl
 | alloc=>rfl
 | m5 x=>simp only[c8];rw[DQ (x:=x) h]
 | un f x=>simp only[c8];rw[DQ (x:=x) h]
 | conv k x=>simp only[c8];rw[DQ (x:=x) h]
 | box s x=>simp only[c8];rw[DQ (x:=x) h]
 | j4 x off=>simp only[c8];rw[DQ (x:=x) h]
 | pn x off n agg=>simp only[c8];rw[DQ (x:=x) h]
 | ld agg n x=>simp only[c8];rw[DQ (x:=x) h]
 | vm agg n x=>simp only[c8];rw[DQ (x:=x) h]
 | ext x i=>simp only[c8];rw[DQ (x:=x) h]
 | len x=>simp only[c8];rw[DQ (x:=x) h]
 | pick c x y =>
  simp only[IH,Ha]at h;simp only[c8];rw[DQ (x:=c) λ t ht=>h t (.inl (.inl ht)),DQ (x:=x) λ t ht=>h t (.inl (.inr ht)),DQ (x:=y) λ t ht=>h t (.inr ht)]
 | bin f x y =>
  simp only[IH,Ha]at h;simp only[c8];rw[DQ (x:=x) λ t ht=>h t (.inl ht),DQ (x:=y) λ t ht=>h t (.inr ht)]
 | tk ne n x y =>
  simp only[IH,Ha]at h;simp only[c8];rw[DQ (x:=x) λ t ht=>h t (.inl ht),DQ (x:=y) λ t ht=>h t (.inr ht)]
 | beq ne x y =>
  simp only[IH,Ha]at h;simp only[c8];rw[DQ (x:=x) λ t ht=>h t (.inl ht),DQ (x:=y) λ t ht=>h t (.inr ht)]
 | u6 arr a8 x i =>
  simp only[IH,Ha]at h;simp only[c8];rw[DQ (x:=x) λ t ht=>h t (.inl ht),DQ (x:=i) λ t ht=>h t (.inr ht)]
 | st n x v =>
  simp only[IH,Ha]at h;simp only[c8];rw[DQ (x:=x) λ t ht=>h t (.inl ht),DQ (x:=v) λ t ht=>h t (.inr ht)]
 | mk s a8 bytes z l c =>
  simp only[IH,Ha]at h;simp only[c8];rw[DQ (x:=l) λ t ht=>h t (.inl ht),DQ (x:=c) λ t ht=>h t (.inr ht)]
 | app s a8 bytes x y =>
  simp only[IH,Ha]at h;simp only[c8];rw[DQ (x:=x) λ t ht=>h t (.inl ht),DQ (x:=y) λ t ht=>h t (.inr ht)]
theorem Tx (o:AJ) (l:N') (s:Nat):o.m7 l s=if s∈l then ⟨0,λ_=>none⟩ else o s:=by
 induction l with
 | nil=>simp [AJ.m7]
 | cons x r ih =>
  simp only[AJ.m7,Lc];by_cases h:s=x
  ·simp [h]
  ·rw[if_neg h,ih]
   simp [h]
theorem AjR {o o':AJ} {l:N'} (h : ∀ s,s ∉ l->o s=o' s):o.m7 l=o'.m7 l:=by
 funext s
 rw[Tx,Tx];split
 ·rfl
 ·rename_i hs;exact h s hs
end
section
variable {ops:Array Oper}
def inner (acc:Array Nat) (o:Oper):Nat:=o.after.foldl (λ s e=>if Region.binds .any e then s ||| 2^e.on ||| acc.getD e.on 0 else s) 0
theorem AjT (acc:Array Nat) (o:Oper) (j:Nat) (h:(inner acc o).testBit j=true) : ∃ e∈o.after,Region.binds .any e=true/\(e.on=j\/(acc.getD e.on 0).testBit j=true):=by
 unfold inner at h;rw[<-wc]at h;have key : ∀ (l:List Edge) (s:Nat),(l.foldl (λ s e=>if Region.binds .any e then s ||| 2^e.on ||| acc.getD e.on 0 else s) s).testBit j=true->s.testBit j=true \/ ∃ e∈l,Region.binds .any e=true/\(e.on=j\/(acc.getD e.on 0).testBit j=true):=by
  intro l;induction l with
  | nil=>intro s hs;exact .inl hs
  | cons e r ih =>
   intro s hs;simp only[yd]at hs;rcases ih _ hs with h1|⟨e',iq,h2⟩
   ·by_cases hb:Region.binds .any e=true
    ·simp only[hb,if_true,Nat.testBit_or,qb,Nat.testBit_two_pow,decide_eq_true_eq]at h1
     rcases h1 with (h1|h1)|h1
     ·exact .inl h1
     ·exact .inr ⟨e,Z',hb,.inl h1⟩
     ·exact .inr ⟨e,Z',hb,.inr h1⟩
    ·simp only[hb,Ma,if_false]at h1
     exact .inl h1
   ·exact .inr ⟨e',by simp [iq],h2⟩
 rcases key _ _ h with h|⟨e,he,h⟩
 ·simp at h
 ·exact ⟨e,by simpa using he,h⟩
theorem Afb (i j:Nat) (h:((Region.before ops).getD i 0).testBit j=true) : ∃ o,ops[i]? = some o /\ ∃ e∈o.after,Region.binds .any e=true/\(e.on=j\/(e.on<i/\((Region.before ops).getD e.on 0).testBit j=true)):=by
 have key : ∀ (rest:List Oper) (done:List Oper) (acc:Array Nat),acc.size=done.length ->
   (∀ i j,(acc.getD i 0).testBit j=true -> ∃ o,done[i]? = some o /\ ∃ e∈o.after,Region.binds .any e=true/\(e.on=j\/(e.on<i/\(acc.getD e.on 0).testBit j=true))) ->
   ∀ i j,((rest.foldl (λ acc o=>acc.push (inner acc o)) acc).getD i 0).testBit j=true -> ∃ o,(done++rest)[i]? = some o /\ ∃ e∈o.after,Region.binds .any e=true/\(e.on=j\/(e.on<i/\((rest.foldl (λ acc o=>acc.push (inner acc o)) acc).getD e.on 0).testBit j=true)):=by
  intro rest;induction rest with
  | nil=>intro done acc hs hinv i j hj;simpa using hinv i j hj
  | cons o r ih =>
   intro done acc hs hinv i j hj;simp only[yd]at hj ⊢;have:=ih (done++[o]) (acc.push (inner acc o)) (by simp [hs]) (λ i j fm => ?_) i j hj
   ·simpa using this
   ·have n6 : ∀ k,k<acc.size->(acc.push (inner acc o)).getD k 0=acc.getD k 0:=λ k hk=>by
     simp [zb,hk,Nat.lt_succ_of_lt hk,Array.getElem_push_lt hk]
    by_cases hi:i<acc.size
    ·rw[n6 i hi]at fm
     obtain ⟨o',Aq,e,he,hb,z8⟩:=hinv i j fm;refine ⟨o',by rw[Qa O'];exact Aq,e,he,hb,z8.imp id λ⟨h1,h2⟩=>⟨h1,by rw[n6 e.on O'];exact h2⟩⟩
    ·have Ow:i=acc.size:=by
      rcases Ld i (acc.push (inner acc o)).size with h1|h1
      ·simp at h1;omega
      ·have:(acc.push (inner acc o)).getD i 0=0:=by simp [zb];intro h2;simp at h1;omega
       rw[this]at fm;simp at fm
     subst Ow;have mj:(acc.push (inner acc o)).getD acc.size 0=inner acc o:=by simp [zb]
     rw[mj]at fm;obtain ⟨e,he,hb,z8⟩:=AjT acc o j fm;refine ⟨o,by rw[hs];simp,e,he,hb,z8.imp id λ h2 => ?_⟩;have j9:e.on<acc.size:=by
      rcases Ld e.on acc.size with h3|h3
      ·exact h3
      ·have:acc.getD e.on 0=0:=by simp [zb];omega
       rw[this]at h2;simp at h2
     exact ⟨j9,by rw[n6 e.on j9];exact h2⟩
 have hb:Region.before ops=ops.toList.foldl (λ acc o=>acc.push (inner acc o)) #[]:=by
  unfold Region.before;rw[<-wc];rfl
 rw[hb]at h ⊢;have:=key ops.toList [] #[] rfl (λ i j fm=>by simp at fm) i j h
 simpa using this
def XW (ops:Array Oper) (X:Nat->Bool):Prop := ∀ j o,X j=true->ops[j]? = some o -> ∀ e∈o.after,Region.binds .any e=true->X e.on=true
theorem anc {X:Nat->Bool} (hX:XW ops X) : ∀ (i:Nat),(∀ o,ops[i]? = some o -> ∀ e∈o.after,Region.binds .any e=true->X e.on=true) -> ∀ j,((Region.before ops).getD i 0).testBit j=true->X j=true:=by
 intro i;induction i using Nat.strongRecOn with
 | ind i ih =>
  intro hi j hj;obtain ⟨o,ho,e,he,hb,z8⟩:=Afb i j hj;have hx:=hi o ho e he hb;rcases z8 with h|⟨j9,h⟩
  ·rw[<-h];exact hx
  ·exact ih e.on j9 (λ o' Aq e' iq k8=>hX e.on o' hx Aq e' iq k8) j h
theorem Alo {X:Nat->Bool} (hX:XW ops X) {i j:Nat} (hi : ∀ o,ops[i]? = some o -> ∀ e∈o.after,Region.binds .any e=true->X e.on=true) (j9:j<i) (h:JV (Region.before ops) i j=true):X j=true:=by
 unfold JV at h;rw[Nat.max_eq_left O',Nat.min_eq_right O']at h;exact anc hX i hi j h
theorem Wv {X:Nat->Bool} (hX:XW ops X) {i j:Nat} (hj:X j=true) (j9:i<j) (h:JV (Region.before ops) i j=true):X i=true:=by
 unfold JV at h;rw[Nat.max_eq_right O',Nat.min_eq_left O']at h;exact anc hX j (λ o ho e he hb=>hX j o hj ho e he hb) i h
end
section
variable {C:Cl}
abbrev D:=(Nat->AV) × AJ
structure D5 where
 d:Option Nat
 g:Bool
 E:CI
 v:AV
def D5.own (r:D5) (o:AJ):AJ:=if r.g then r.E.w8 o else o
def D5.act (r:D5) (x:D):D:=(KU x.1 r.d r.v,r.own x.2)
structure QB (C:Cl) (x:AI) (r:D5) (s s':St):Prop where
 d:r.d=x.dst
 g:ND (e9 s.tm) x.guard=some r.g
 E:r.g=true->c8 C x.b7 (E6 (e9 s.tm)) s.own x.op=some r.E
 v:r.v=(if r.g then r.E.valOf s.own else .c5 [])
 act:(e9 s'.tm,s'.own)=r.act (e9 s.tm,s.own)
theorem trace : ∀ {l:List AI} {st j5:St},DJ C l st=some j5 -> ∃ (σ:Nat->St) (rs:List D5),σ 0=st/\σ l.length=j5/\rs.length=l.length /\ ∀ (k:Nat) (x:AI) (r:D5),l[k]? = some x->rs[k]? = some r->QB C x r (σ k) (σ (k+1))
 | [],st,j5,h=>by
  simp only[DJ,za]at h;subst h;exact ⟨λ_=>st,[],rfl,rfl,rfl,λ k x r hx=>by simp at hx⟩
 | o::q,st,j5,h=>by
  simp only[DJ]at h;cases hs:DB C o st with
  | none=>simp [hs]at h
  | some BH =>
   simp only[hs]at h;obtain ⟨σ,rs,h0,h1,hl,h2⟩:=trace h;obtain ⟨g,E,e1,e2,e3,e4⟩:=Xq hs;refine ⟨λ k=>match k with|0=>st|k+1=>σ k,⟨o.dst,g,E,if g then E.valOf st.own else .c5 []⟩::rs,rfl,h1,by simp [hl],λ k x r hx hr => ?_⟩;cases k with
   | zero =>
    simp at hx hr;subst hx hr;refine ⟨rfl,e1,e2,rfl,?_⟩;show (e9 (σ 0).tm,(σ 0).own)=_;rw[h0,e3,e4];rfl
   | succ k=>exact h2 k x r (by simpa using hx) (by simpa using hr)
def EC (X:Nat->Bool):List D5->Nat->D->D
 | [],_,x=>x
 | r::rs,k,x=>EC X rs (k+1) (if X k then r.act x else x)
theorem nJ (X:Nat->Bool) : ∀ (l l':List D5) (k:Nat) (x:D),EC X (l++l') k x=EC X l' (k+l.length) (EC X l k x)
 | [],l',k,x=>by simp [EC]
 | r::rs,l',k,x=>by
  simp only[List.cons_append,EC,Pc];rw[nJ X rs l' (k+1)];congr 1;omega
theorem zK {X Y:Nat->Bool} {t:Nat} : ∀ (l:List D5) (k:Nat) (x y:D),x.1 t=y.1 t->(∀ i r,l[i]? = some r->r.d=some t->X (k+i)=Y (k+i))->(EC X l k x).1 t=(EC Y l k y).1 t
 | [],k,x,y,h,_=>h
 | r::rs,k,x,y,h,wk=>by
  simp only[EC];refine zK rs (k+1) _ _ ?_ λ i r' hr hd=>by
   have:=wk (i+1) r' (by simpa using hr) hd
   rw[show k+1+i=k+(i+1) by omega];exact this
  by_cases hd:r.d=some t
  ·have hx:X k=Y k:=by simpa using wk 0 r rfl hd
   rw[hx];cases Y k
   ·simpa using h
   ·simp [D5.act,KU,hd]
  ·have e1 : ∀ z:D,(r.act z).1 t=z.1 t:=λ z=>by simp [D5.act,KU,hd]
   cases X k<;>cases Y k<;>simp [e1,h]
theorem Alt (E:CI) (s:Nat) (o o':AJ) (h:o s=o' s):E.w8 o s=E.w8 o' s:=by
 cases E with
 | val v=>exact h
 | new s' b v =>
  simp only[CI.w8,AJ.put];by_cases hs:s=s'
  ·subst hs;simp [h]
  ·simp [hs,h]
 | Bf s' b v =>
  simp only[CI.w8,AJ.put];by_cases hs:s=s'
  ·subst hs;simp [h]
  ·simp [hs,h]
 | dw v o2=>rfl
 | Cu s' v o2 =>
  simp only[CI.w8,AJ.put];by_cases hs:s=s'
  ·subst hs;simp [h]
  ·simp [hs]
 | zw s' x v =>
  simp only[CI.w8,AJ.put];by_cases hs:s=s'
  ·simp [hs]
  ·simp [hs,h]
 | q6 s' x =>
  simp only[CI.w8,AJ.put];by_cases hs:s=s'
  ·simp [hs]
  ·simp [hs,h]
theorem zJ {X Y:Nat->Bool} {s:Nat} : ∀ (l:List D5) (k:Nat) (x y:D),x.2 s=y.2 s->(∀ i r,l[i]? = some r->X (k+i)=Y (k+i) \/ ∀ o,r.own o s=o s)->(EC X l k x).2 s=(EC Y l k y).2 s
 | [],k,x,y,h,_=>h
 | r::rs,k,x,y,h,wk=>by
  simp only[EC];refine zJ rs (k+1) _ _ ?_ λ i r' hr=>by
   have:=wk (i+1) r' (by simpa using hr)
   rw[show k+1+i=k+(i+1) by omega];exact this
  rcases wk 0 r rfl with hx|hx
  ·simp only[Dc]at hx
   rw[hx];cases Y k
   ·simpa using h
   ·simp only[if_true,D5.act,D5.own]
    cases r.g
    ·simpa using h
    ·simpa using Alt r.E s _ _ h
  ·have e1 : ∀ z:D,(r.act z).2 s=z.2 s:=λ z=>hx z.2
   cases X k<;>cases Y k<;>simp [e1,h]
theorem nK {X:Nat->Bool} (q:D5) : ∀ (l:List D5) (k:Nat) (x:D),(∀ i r,l[i]? = some r->X (k+i)=true -> ∀ z,r.act (q.act z)=q.act (r.act z))->EC X l k (q.act x)=q.act (EC X l k x)
 | [],k,x,_=>rfl
 | r::rs,k,x,h=>by
  simp only[EC];have du : ∀ i r',rs[i]? = some r'->X (k+1+i)=true -> ∀ z,r'.act (q.act z)=q.act (r'.act z):=λ i r' hr hX=>h (i+1) r' (by simpa using hr) (by rw[show k+(i+1)=k+1+i by omega];exact hX)
  cases hk:X k
  ·simp only[Ma,if_false]
   exact nK q rs (k+1) x du
  ·simp only[if_true]
   rw[h 0 r rfl (by simpa using hk)];exact nK q rs (k+1) _ du
theorem fO {X Y:Nat->Bool} : ∀ (l:List D5) (k:Nat) (x:D),(∀ i,i<l.length->X (k+i)=Y (k+i))->EC X l k x=EC Y l k x
 | [],_,_,_=>rfl
 | r::rs,k,x,h=>by
  simp only[EC];rw[show X k=Y k by simpa using h 0 Z'];exact fO rs (k+1) _ λ i hi=>by
   have:=h (i+1) (by simpa using hi)
   rw[show k+1+i=k+(i+1) by omega];exact this
theorem zI {X X':Nat->Bool} {l:List D5} {i:Nat} {q:D5} (hq:l[i]? = some q) (nh:X i=false) (yx : ∀ j,X' j=(decide (j=i)||X j)) (x:D) (Hl : ∀ j r,l[j]? = some r->i<j->X j=true -> ∀ z,r.act (q.act z)=q.act (r.act z)) :
  EC X' l 0 x=q.act (EC X l 0 x):=by
 have w9:i<l.length:=(zS hq).1;have hli:l=l.take i++(q::l.drop (i+1)):=by
  have:l.drop i=q::l.drop (i+1):=by
   rw[Qb w9];congr 1;have:=(zS hq).2
   exact this
  rw[<-this,List.take_append_drop]
 have ct:(l.take i).length=i:=by simp;omega
 rw[hli,nJ,nJ,ct,eb];simp only[EC,nh,Ma,if_false];rw[show X' i=true by rw[yx];simp];simp only[if_true];rw[fO (X:=X') (Y:=X) (l.take i) 0 x (λ j hj=>by rw[yx];simp;omega)];rw[fO (X:=X') (Y:=X) (l.drop (i+1)) (i+1) _ (λ j hj=>by rw[yx];simp;omega)];refine nK q _ _ _ λ j r hr Kk => ?_
 rw[Ra]at hr;exact Hl (i+1+j) r hr O' Kk
end
end Go.c6

namespace Go.c6
open Go.RowKit
section
variable {C:Cl} {b7:N'} {ρ:AU->AV}
theorem Ahc {op:EI} (o o':AJ) (ht:HJ op=false) (hr:W9 op=true->o.m7 b7=o'.m7 b7) (g9 : ∀ s,E3 op=some s->o s=o' s):c8 C b7 ρ o op=c8 C b7 ρ o' op:=by
 cases op with
 | pe s n x v =>
  have h1:=g9 s rfl;have h2 : ∀ t i j vs,(o.na s t i j vs).map (λ q=>CI.q6 s (q s))=(o'.na s t i j vs).map (λ q=>CI.q6 s (q s)):=λ t i j vs=>by
   have hg:o.get s t=o'.get s t:=by unfold AJ.get;rw[h1]
   unfold AJ.na;rw[hg];cases o'.get s t with
   | none=>rfl
   | some b =>
    simp only;cases b.es[i]? with
    | none=>rfl
    | some cs =>
     simp only;split
     ·simp only[Pa,AJ.j7,h1]
     ·rfl
  simp only[c8,h2]
 | ld agg n x=>have:=hr rfl;simp only[c8,this]
 | call f xs=>have:=hr rfl;simp only[c8,this]
 | n7 s f xs=>have:=hr rfl;simp only[c8,this]
 | cg s f xs=>have h1:=g9 s rfl;simp only[c8,h1]
 | st=>simp [HJ]at ht
 | app=>simp [HJ]at ht
 | c7=>simp [HJ]at ht
 | m9=>simp [HJ]at ht
 | _=>rfl
theorem wI {op:EI} {o:AJ} {E:CI} (h:c8 C b7 ρ o op=some E) {s:Nat} (hs:E3 op=some s):(∃ b v,E = .new s b v\/E = .Bf s b v) \/ ∃ x v,E = .q6 s x\/E = .zw s x v:=by
 cases op with
 | pe s' n x v =>
  simp only[E3,za]at hs;subst hs;simp only[c8]at h;split at h
  ·split at h
   ·simp only[ua]at h
    obtain ⟨q,_,rfl⟩:=h;exact .inr ⟨_,.any,.inl rfl⟩
   ·cases h
  ·cases h
 | n7 s' f xs =>
  simp only[E3,za]at hs;subst hs;simp only[c8]at h;split at h
  ·simp only[ua]at h
   obtain ⟨r,_,rfl⟩:=h;exact .inl ⟨_,_,.inl rfl⟩
  ·cases h
 | pg s' a8 bytes x y =>
  simp only[E3,za]at hs;subst hs;simp only[c8]at h;split at h
  ·split at h
   ·simp only[za]at h;exact .inl ⟨_,_,.inl h.symm⟩
   ·cases h
  ·cases h
 | cg s' f xs =>
  simp only[E3,za]at hs;subst hs;simp only[c8,ua]at h;obtain ⟨p,_,rfl⟩:=h;exact .inr ⟨_,_,.inr rfl⟩
 | v5 s' z =>
  simp only[E3,za]at hs;subst hs;simp only[c8,za]at h;exact .inl ⟨_,_,.inr h.symm⟩
 | box s' x =>
  simp only[E3,za]at hs;subst hs;simp only[c8]at h;split at h
  ·simp only[za]at h;exact .inl ⟨_,_,.inl h.symm⟩
  ·cases h
 | alloc s' z =>
  simp only[E3,za]at hs;subst hs;simp only[c8,za]at h;exact .inl ⟨_,_,.inl h.symm⟩
 | a7 s' a8 ps =>
  simp only[E3,za]at hs;subst hs;simp only[c8]at h;split at h
  ·split at h
   ·simp only[za]at h;exact .inl ⟨_,_,.inl h.symm⟩
   ·cases h
  ·cases h
 | mk s' a8 bytes z l c =>
  simp only[E3,za]at hs;subst hs;simp only[c8]at h;split at h
  ·split at h
   ·simp only[za]at h;exact .inl ⟨_,_,.inl h.symm⟩
   ·cases h
  ·cases h
 | _=>simp [E3]at hs
theorem oT {α:Type} {x:Option α} {f:α->AV} {E:CI} (h:x.map (λ y=>CI.val (f y))=some E) : ∃ v,E = .val v:=by
 cases x with
 | none=>cases h
 | some y=>simp only[Pa,za]at h;exact ⟨_,h.symm⟩
theorem wJ {op:EI} {o:AJ} {E:CI} (h:c8 C b7 ρ o op=some E) (ht:HJ op=false) (hs:E3 op=none) : ∃ v,E = .val v:=by
 cases op<;>first|(simp [HJ]at ht;done)|(simp [E3]at hs;done)|skip
 all_goals simp only[c8]at h
 all_goals
  first
   | (simp only[za]at h;exact ⟨_,h.symm⟩)
   | exact oT (f:=id) h
   | skip
 all_goals (repeat' split at h)
 all_goals
  first
   | (cases h;done)
   | (simp only[za]at h;exact ⟨_,h.symm⟩)
   | exact oT (f:=id) h
   | exact oT (f:=AV.agg) h
   | (simp only[ua]at h;obtain ⟨cs,_,rfl⟩:=h;exact ⟨_,rfl⟩)
theorem W8 {x:AI} {r:D5} {s s':St} (h:QB C x r s s') (ht:HJ x.op=false) (hs:E3 x.op=none) (o:AJ):r.own o=o:=by
 unfold D5.own;cases hg:r.g with
 | false=>rfl
 | true =>
  obtain ⟨v,hv⟩:=wJ (h.E hg) ht hs;simp [hv,CI.w8]
theorem iI {x:AI} {r:D5} {s s':St} (h:QB C x r s s') {q:Nat} (hs:E3 x.op=some q):(∀ o,r.own o=o) \/ ∃ F:CO->CO,∀ o:AJ,r.own o=o.put q (F (o q)):=by
 unfold D5.own;cases hg:r.g with
 | false=>exact .inl λ_=>rfl
 | true =>
  rcases wI (h.E hg) hs with ⟨b,v,hv|hv⟩|⟨x,v,hv|hv⟩
  ·exact .inr ⟨λ q=>q.new b,λ o=>by simp [hv,CI.w8]⟩
  ·exact .inr ⟨λ q=>q.new b,λ o=>by simp [hv,CI.w8]⟩
  ·exact .inr ⟨λ_=>x,λ o=>by simp [hv,CI.w8]⟩
  ·exact .inr ⟨λ_=>x,λ o=>by simp [hv,CI.w8]⟩
theorem pS {x:AI} {r:D5} {s s':St} (h:QB C x r s s') {q:Nat} (hs:E3 x.op=some q) {p:Nat} (hp:p≠q) (o:AJ):r.own o p=o p:=by
 rcases iI h hs with h1|⟨b,h1⟩
 ·rw[h1]
 ·rw[h1];simp [AJ.put,hp]
theorem Uk {x:AI} {s:Nat} (h:OP x=some s) : ∃ f xs,x.op = .c7 f xs/\x.b7=[s]:=by
 unfold OP at h;split at h
 ·rename_i f xs s' h1 h2
  obtain rfl:=oa h;exact ⟨f,xs,h1,h2⟩
 ·cases h
theorem fX {x y:AI} (h:YO x y=true) : ∃ s,OP x=some s/\E3 y.op=some s/\HJ y.op=false/\W9 y.op=false:=by
 unfold YO at h;split at h
 ·rename_i s hs
  simp only[ya,beq_iff_eq,Hc]at h;exact ⟨s,hs,h.1,h.2.1,h.2.2⟩
 ·cases h
theorem Afl {f:Nat} {vs:u_} {s:Nat} {o o':AJ} (h : ∀ q,q≠s->o q=o' q):N9 C f vs s o=N9 C f vs s o':=by
 have e:(λ p:AV × AJ => ∀ u:AJ,(∀ q,q≠s->u q=o q)->C.fe f vs u=some (p.1,p.2.put s (u s)))=λ p:AV × AJ => ∀ u:AJ,(∀ q,q≠s->u q=o' q)->C.fe f vs u=some (p.1,p.2.put s (u s)):=by
  funext p
  refine propext ⟨λ g u hu=>g u λ q hq=>by rw[hu q hq,h q hq],λ g u hu=>g u λ q hq=>by rw[hu q hq,h q hq]⟩
 cases h1:N9 C f vs s o with
 | some p =>
  have h2:=dL h1;exact (dK h2.1 λ u hu=>h2.2 u λ q hq=>by rw[hu q hq,h q hq]).symm
 | none =>
  cases h3:N9 C f vs s o' with
  | none=>rfl
  | some p =>
   have h2:=dL h3;rw[dK h2.1 λ u hu=>h2.2 u λ q hq=>by rw[hu q hq,h q hq]]at h1;cases h1
theorem wH {x:AI} {s:Nat} (hk:OP x=some s) {o:AJ} {E:CI} (h:c8 C x.b7 ρ o x.op=some E) : ∃ v o',E = .Cu s v o':=by
 obtain ⟨f,xs,h1,h2⟩:=Uk hk;rw[h1,h2]at h;simp only[c8,ua]at h;obtain ⟨p,_,rfl⟩:=h;exact ⟨_,_,rfl⟩
theorem Vl {x:AI} {r:D5} {s s':St} (h:QB C x r s s') {q:Nat} (hk:OP x=some q):(∀ o,r.own o=o) \/ ∃ o':AJ,∀ o:AJ,r.own o=o'.put q (o q):=by
 unfold D5.own;cases hg:r.g with
 | false=>exact .inl λ_=>rfl
 | true =>
  obtain ⟨v,o',hv⟩:=wH hk (h.E hg);exact .inr ⟨o',λ o=>by simp [hv,CI.w8]⟩
theorem Wu (b:Array Nat) (i j:Nat):JV b i j=JV b j i:=by unfold JV;rw[Nat.max_comm,Nat.min_comm]
theorem WE {ops:Array Oper} {l:List AI} (h:WD ops l=true) {i j:Nat} {x y:AI} (hx:l[i]? = some x) (hy:l[j]? = some y) (k7:i≠j) :
  (JV (Region.before ops) i j=true\/((∀ t,y.dst=some t->t ∉ YR x)/\(HJ x.op=false\/L5 y.op=false\/YO x y=true)/\(W9 x.op=true -> ∀ s,E3 y.op=some s->s∈x.b7))) /\
  (JV (Region.before ops) i j=true \/ ∀ s s',E3 x.op=some s->E3 y.op=some s'->s≠s'):=by
 simp only[WD,ya]at h;have h1:=h.1.1;rw[fb]at h1;have hxm:(x,i)∈l.zipIdx:=Hb.2 hx;have hym:(y,j)∈l.zipIdx:=Hb.2 hy;have h2:=h1 (x,i) hxm;simp only at h2;rw[fb]at h2;have h3:=h2 (y,j) hym;simp only[ya,qb,beq_iff_eq,k7,false_or]at h3;obtain ⟨h4,h5⟩:=h3;refine ⟨?_,h5.imp id λ h5 s s' hs uj => ?_⟩
 ·unfold Wy at h4
  simp only[qb,beq_iff_eq,k7,false_or]at h4;refine h4.imp id λ h6 => ?_
  simp only[ya,qb,Hc]at h6;obtain ⟨⟨h7,h8⟩,h9⟩:=h6;refine ⟨λ t ht => ?_,or_assoc.1 h8,λ hr s hs => ?_⟩
  ·rw[ht]at h7
   simpa using h7
  ·rw[hr,hs]at h9
   simpa using h9
 ·rw[hs,uj]at h5
  simpa using h5
structure cO (C:Cl) (ops:Array Oper) (l:List AI) (σ:Nat->St) (rs:List D5):Prop where
 ok:WD ops l=true
 len:rs.length=l.length
 fits : ∀ (k:Nat) (x:AI) (r:D5),l[k]? = some x->rs[k]? = some r->QB C x r (σ k) (σ (k+1))
variable {ops:Array Oper} {l:List AI} {σ:Nat->St} {rs:List D5}
theorem nL {X:Nat->Bool} : ∀ (l:List D5) (k:Nat) (x:D),(∀ i,i<l.length->X (k+i)=false)->EC X l k x=x
 | [],_,_,_=>rfl
 | r::q,k,x,h=>by
  simp only[EC];rw[show X k=false by simpa using h 0 Z'];exact nL q (k+1) _ λ i hi=>by
   have:=h (i+1) (by simpa using hi)
   rw[show k+1+i=k+(i+1) by omega];exact this
def d0 (σ:Nat->St):D:=(e9 (σ 0).tm,(σ 0).own)
theorem mG (h:cO C ops l σ rs) : ∀ k,k<=l.length->EC (λ j=>decide (j<k)) rs 0 (d0 σ)=(e9 (σ k).tm,(σ k).own)
 | 0,_=>nL rs 0 _ λ i _=>Z'
 | k+1,hk=>by
  have pq:k<l.length:=O'
  have hkr:k<rs.length:=by rw[h.len];exact pq
  have hr:rs[k]? = some rs[k]:=zE hkr;have hf:=h.fits k l[k] rs[k] (zE pq) hr;rw[zI (X:=λ j=>decide (j<k)) (X':=λ j=>decide (j<k+1)) hr Z' (λ j=>by
   by_cases h1:j=k
   ·simp [h1]
   ·simp [h1];omega) _ (λ j r' _ j9 hX=>by simp at hX;omega),mG h k O']
  exact hf.act.symm
section
variable {X:Nat->Bool} {i:Nat} {x:AI} {r:D5}
theorem Ww (hX:XW ops X) (nh:X i=false) (fc : ∀ o,ops[i]? = some o -> ∀ e∈o.after,Region.binds .any e=true->X e.on=true) {j:Nat} (k7:i≠j) (ho:JV (Region.before ops) i j=true):X j=decide (j<i):=by
 rcases xe k7 with j9|ud
 ·have:X j=false:=by
   cases hj:X j with
   | false=>rfl
   | true=>have:=Wv hX hj j9 ho;rw[nh]at this;cases this
  rw[this];simp;omega
 ·rw[Alo hX fc ud ho];simp;omega
theorem Ag0 (h:cO C ops l σ rs) (hx:l[i]? = some x) (hr:rs[i]? = some r) (hX:XW ops X) (nh:X i=false) (fc : ∀ o,ops[i]? = some o -> ∀ e∈o.after,Region.binds .any e=true->X e.on=true) :
  ND (EC X rs 0 (d0 σ)).1 x.guard=some r.g/\(r.g=true->c8 C x.b7 (E6 (EC X rs 0 (d0 σ)).1) (EC X rs 0 (d0 σ)).2 x.op=some r.E) /\
  (if r.g then r.E.valOf (EC X rs 0 (d0 σ)).2 else .c5 [])=r.v /\
  ∀ X':Nat->Bool,(∀ j,X' j=(decide (j=i)||X j))->EC X' rs 0 (d0 σ)=r.act (EC X rs 0 (d0 σ)):=by
 have w9:i<l.length:=(zS hx).1;have hf:=h.fits i x r hx hr;have Cg:=mG h i O';generalize hT:EC X rs 0 (d0 σ)=TX;have az : ∀ (j:Nat) (r':D5),rs[j]? = some r' -> ∃ y,l[j]? = some y/\QB C y r' (σ j) (σ (j+1)):=λ j r' hj=>by
  have db:j<l.length:=by rw[<-h.len];exact (zS hj).1
  exact ⟨l[j],zE db,h.fits j _ _ (zE db) hj⟩
 have Ce : ∀ t∈YR x,TX.1 t=e9 (σ i).tm t:=λ t ht=>by
  have:=zK (X:=X) (Y:=λ j=>decide (j<i)) (t:=t) rs 0 (d0 σ) (d0 σ) rfl (λ j r' hj hd=>by
   simp only[eb];by_cases k7:i=j
   ·subst k7;simp [nh]
   ·obtain ⟨y,hy,fj⟩:=az j r' hj
    rcases (WE h.ok hx hy k7).1 with ho|⟨h1,_⟩
    ·exact Ww hX nh fc k7 ho
    ·exact absurd ht (h1 t (by rw[<-fj.d];exact hd)))
  rw[hT,Cg]at this;exact this
 have Jl : ∀ t∈IH x.op,TX.1 t=e9 (σ i).tm t:=λ t ht=>Ce t (by simp [YR,ht])
 have gb : ∀ s,(∀ (j:Nat) (y:AI) (r':D5),i≠j->l[j]? = some y->rs[j]? = some r'->JV (Region.before ops) i j=true \/ ∀ o,r'.own o s=o s)->TX.2 s=(σ i).own s:=λ s hs=>by
  have:=zJ (X:=X) (Y:=λ j=>decide (j<i)) (s:=s) rs 0 (d0 σ) (d0 σ) rfl (λ j r' hj=>by
   simp only[eb];by_cases k7:i=j
   ·subst k7;left;simp [nh]
   ·obtain ⟨y,hy,fj⟩:=az j r' hj
    rcases hs j y r' k7 hy hj with ho|ho
    ·exact .inl (Ww hX nh fc k7 ho)
    ·exact .inr ho)
  rw[hT,Cg]at this;exact this
 have oo : ∀ (j:Nat) (y:AI) (r':D5),l[j]? = some y->rs[j]? = some r'->L5 y.op=false -> ∀ o,r'.own o=o:=λ j y r' hy hj hm o=>by
  simp only[L5,Bool.or_eq_false_iff]at hm;exact W8 (h.fits j y r' hy hj) hm.1.1 (by simpa using hm.2) o
 have Ja : ∀ (j:Nat) (y:AI),i≠j->l[j]? = some y->HJ y.op=true->L5 x.op=true->JV (Region.before ops) i j=true\/YO y x=true:=λ j y k7 hy ht iy=>by
  rcases (WE h.ok hy hx (Ne.symm k7)).1 with ho|⟨_,h2,_⟩
  ·rw[Wu];exact .inl ho
  ·rw[ht,iy]at h2
   simp only[ye,false_or]at h2;exact .inr h2
 have hg:ND TX.1 x.guard=some r.g:=by
  rw[<-hf.g];cases Fc:x.guard with
  | none=>rfl
  | some gw =>
   obtain ⟨g,w⟩:=gw;simp only[ND];rw[Ce g (by simp [YR,Fc])]
 have Ci:HJ x.op=true -> ∀ s,OP x≠some s->TX.2 s=(σ i).own s:=λ ht s Dv=>by
  refine gb s λ j y r' k7 hy hj => ?_
  cases hm:L5 y.op with
  | false=>exact .inr λ o=>by rw[oo j y r' hy hj hm o]
  | true =>
   rcases (WE h.ok hx hy k7).1 with ho|⟨_,h2,_⟩
   ·exact .inl ho
   ·rw[ht,hm]at h2
    simp only[ye,false_or]at h2;obtain ⟨q,k1,k2,k3,_⟩:=fX h2;exact .inr λ o=>pS (h.fits j y r' hy hj) k2 (p:=s) (λ e=>Dv (by rw[e];exact k1)) o
 have yb:HJ x.op=true->OP x=none->TX.2=(σ i).own:=λ ht hn=>by
  funext s
  exact Ci ht s (by rw[hn];simp)
 have Ix:W9 x.op=true->TX.2.m7 x.b7=(σ i).own.m7 x.b7:=λ ko=>by
  refine AjR λ s hs=>gb s λ j y r' k7 hy hj => ?_
  have iy:L5 x.op=true:=by simp [L5,ko]
  cases ht:HJ y.op with
  | true =>
   refine .inl ((Ja j y k7 hy ht iy).resolve_right λ hk => ?_);obtain ⟨_,_,_,_,k4⟩:=fX hk;rw[ko]at k4;cases k4
  | false =>
   cases nk:E3 y.op with
   | none=>exact .inr λ o=>by rw[W8 (h.fits j y r' hy hj) ht nk o]
   | some q =>
    rcases (WE h.ok hx hy k7).1 with ho|⟨_,_,h3⟩
    ·exact .inl ho
    ·exact .inr λ o=>pS (h.fits j y r' hy hj) nk (p:=s) (λ e=>hs (by rw[e];exact h3 ko q nk)) o
 have Cc : ∀ s,E3 x.op=some s->TX.2 s=(σ i).own s:=λ s vh=>by
  have iy:L5 x.op=true:=by simp [L5,vh]
  exact gb s λ j y r' k7 hy hj=>by
   cases ht:HJ y.op with
   | true =>
    rcases Ja j y k7 hy ht iy with ho|hk
    ·exact .inl ho
    ·obtain ⟨q,k1,k2,_,_⟩:=fX hk
     obtain rfl:q=s:=oa (k2.symm.trans vh);rcases Vl (h.fits j y r' hy hj) k1 with g1|⟨o',g1⟩
     ·exact .inr λ o=>by rw[g1]
     ·exact .inr λ o=>by rw[g1];simp [AJ.put]
   | false =>
    cases nk:E3 y.op with
    | none=>exact .inr λ o=>by rw[W8 (h.fits j y r' hy hj) ht nk o]
    | some q =>
     rcases (WE h.ok hx hy k7).2 with ho|Ax
     ·exact .inl ho
     ·exact .inr λ o=>pS (h.fits j y r' hy hj) nk (Ax s q vh nk) o
 have Og:r.g=true->c8 C x.b7 (E6 TX.1) TX.2 x.op=some r.E:=λ fk=>by
  rw[Ag9 Jl,<-hf.E fk];cases ht:HJ x.op with
  | true =>
   cases hk:OP x with
   | none=>rw[yb ht hk]
   | some s =>
    obtain ⟨f,xs,k1,k2⟩:=Uk hk;rw[k1,k2];simp only[c8];rw[Afl (o':=(σ i).own) λ q hq=>Ci ht q (by rw[hk];exact λ e=>hq (oa e).symm)]
  | false=>exact Ahc _ _ ht Ix Cc
 have hval:(if r.g then r.E.valOf TX.2 else .c5 [])=r.v:=by
  rw[hf.v];cases Ov:r.g with
  | false=>rfl
  | true =>
   simp only[if_true];cases vh:E3 x.op with
   | none =>
    cases ht:HJ x.op with
    | true =>
     cases hk:OP x with
     | none=>rw[yb ht hk]
     | some s =>
      obtain ⟨v,o',hv⟩:=wH hk (hf.E Ov);rw[hv];rfl
    | false =>
     obtain ⟨v,hv⟩:=wJ (hf.E Ov) ht vh;rw[hv];rfl
   | some s =>
    have Ax:=Cc s vh;rcases wI (hf.E Ov) vh with ⟨b,v,hv|hv⟩|⟨x,v,hv|hv⟩<;>rw[hv]<;>simp only[CI.valOf,AJ.g7,Ax]
 refine ⟨hg,Og,hval,λ X' yx => ?_⟩;rw[<-hT];refine zI hr nh yx _ λ j r' hj j9 Kk z => ?_
 obtain ⟨y,hy,fj⟩:=az j r' hj;have k7:i≠j:=O'
 have Ca : ¬ JV (Region.before ops) i j=true:=λ ho=>by
  have:=Wv hX Kk j9 ho
  rw[nh]at this;cases this
 obtain ⟨Pz,Ed⟩:=WE h.ok hx hy k7;obtain ⟨zl,xm⟩:=WE h.ok hy hx (Ne.symm k7);have hp:=Pz.resolve_left Ca;have hq:=zl.resolve_left (by rw[Wu];exact Ca);unfold D5.act;refine Prod.ext ?_ ?_
 ·funext t
  simp only[KU];by_cases h1:r'.d=some t<;>by_cases h2:r.d=some t
  ·exact absurd (by rw[hf.d]at h2;simp [YR,h2]) (hp.1 t (by rw[<-fj.d];exact h1))
  ·simp [h1,h2]
  ·simp [h1,h2]
  ·simp [h1,h2]
 ·show r'.own (r.own z.2)=r.own (r'.own z.2)
  cases iy:L5 x.op with
  | false=>rw[oo i x r hx hr iy,oo i x r hx hr iy]
  | true =>
   cases An:L5 y.op with
   | false=>rw[oo j y r' hy hj An,oo j y r' hy hj An]
   | true =>
    have Am : ∀ {x y:AI} {r r':D5} {s1 s2 s3 s4:St},QB C x r s1 s2->QB C y r' s3 s4->YO x y=true -> ∀ o,r'.own (r.own o)=r.own (r'.own o):=λ hf fj hk o=>by
     obtain ⟨q,k1,k2,_,_⟩:=fX hk;rcases Vl hf k1 with g1|⟨o',g1⟩
     ·rw[g1,g1]
     ·rcases iI fj k2 with g2|⟨F,g2⟩
      ·rw[g2,g2]
      ·rw[g1,g2,g2,g1]
       funext p
       simp only[AJ.put];split<;>rfl
    rcases hp.2.1 with htx|h1|h1
    rotate_left
    ·rw[An]at h1;cases h1
    ·exact Am hf fj h1 _
    rcases hq.2.1 with hty|h1|h1
    rotate_left
    ·rw[iy]at h1;cases h1
    ·exact (Am fj hf h1 _).symm
    cases vh:E3 x.op with
    | none=>rw[W8 hf htx vh,W8 hf htx vh]
    | some s =>
     cases nk:E3 y.op with
     | none=>rw[W8 fj hty nk,W8 fj hty nk]
     | some s' =>
      have Ax:=(Ed.resolve_left Ca) s s' vh nk;rcases iI hf vh with h1|⟨b,h1⟩
      ·rw[h1,h1]
      ·rcases iI fj nk with h2|⟨b',h2⟩
       ·rw[h2,h2]
       ·rw[h1,h2,h2,h1]
        funext q
        simp only[AJ.put];by_cases Qc:q=s<;>by_cases Ee:q=s'
        ·exact absurd (Qc.symm.trans Ee) Ax
        ·simp [Qc,Ax]
        ·simp [Ee,Ne.symm Ax]
        ·simp [Qc,Ee]
end
end
end Go.c6

namespace Go.c6
open Go.RowKit
section
variable {ops:Array Oper} {md:Region.Mode}
theorem Afh {e:Edge} (h:Region.binds .any e=true) (md:Region.Mode):Region.binds md e=true:=by
 unfold Region.binds at *;split at h<;>simp_all
theorem Td (ops:Array Oper) (md:Region.Mode) : ∀ (fuel t:Nat) (b8:Array Bool),b8.size=ops.size -> ∀ (k i:Nat),(Region.linearise.go md ops fuel t b8 [])[k]? = some i ->
  ∃ o,ops[i]? = some o /\ ∀ e∈o.after,Region.binds md e=true->b8.getD e.on false=true\/e.on∈(Region.linearise.go md ops fuel t b8 []).take k
 | 0,t,b8,hs,k,i,h=>by simp [Region.linearise.go]at h
 | fuel+1,t,b8,hs,k,i,h=>by
  have kg:Region.linearise.go md ops (fuel+1) t b8 []=match (Region.ready md ops b8)[t%(Region.ready md ops b8).length]? with
   | some i=>i::Region.linearise.go md ops fuel (t/(Region.ready md ops b8).length) (b8.setIfInBounds i true) []
   | none=>[]:=by
   simp only[Region.linearise.go];change (match (Region.ready md ops b8)[t%(Region.ready md ops b8).length]? with
    | some i=>Region.linearise.go md ops fuel (t/(Region.ready md ops b8).length) (b8.setIfInBounds i true) [i]
    | none=>[].reverse)=_
   cases (Region.ready md ops b8)[t%(Region.ready md ops b8).length]? with
   | none=>rfl
   | some i=>simp only[];rw[linearise_go_acc];rfl
  rw[kg]at h ⊢;cases hr:(Region.ready md ops b8)[t%(Region.ready md ops b8).length]? with
  | none=>rw[hr]at h;simp at h
  | some q =>
   rw[hr]at h;simp only at h ⊢;obtain ⟨_,oq,hoq,hq⟩:=mem_ready.1 (zM hr);cases k with
   | zero =>
    simp at h;subst h;exact ⟨oq,hoq,λ e he hb => .inl (hq e he hb)⟩
   | succ k =>
    simp at h;obtain ⟨o,ho,hh⟩:=Td ops md fuel _ _ (by simpa using hs) k i h;refine ⟨o,ho,λ e he hb => ?_⟩;rcases hh e he hb with h1|h1
    ·by_cases heq:e.on=q
     ·right;simp [heq]
     ·left
      rw[getD_set_ne false (Ne.symm heq)]at h1;exact h1
    ·right;simp [h1]
theorem nG {p:Nat->Bool} : ∀ (l:N'),(∃ i∈l,p i=false) -> ∃ k i,l[k]? = some i/\p i=false /\ ∀ j∈l.take k,p j=true
 | [],⟨i,hi,_⟩=>by simp at hi
 | x::r,⟨i,hi,hp⟩=>by
  cases hx:p x with
  | false=>exact ⟨0,x,rfl,hx,Z'⟩
  | true =>
   have : ∃ i∈r,p i=false:=by
    rcases Lc.1 hi with h|h
    ·subst h;rw[hx]at hp;cases hp
    ·exact ⟨i,h,hp⟩
   obtain ⟨k,j,h1,h2,h3⟩:=nG r this;refine ⟨k+1,j,by simpa using h1,h2,λ q hq => ?_⟩;simp only[List.take_succ_cons,Lc]at hq;rcases hq with h|h
   ·subst h;exact hx
   ·exact h3 q h
theorem progress {l:List AI} (hd:WD ops l=true) (Ij:md = .gc->Region.departs ops=true) {b8:Array Bool} (hs:b8.size=ops.size) (hr:Region.ready md ops b8=[]) : ∀ j,j<ops.size->b8.getD j false=true:=by
 intro j hj;cases db:b8.getD j false with
 | true=>rfl
 | false =>
  exfalso;simp only[WD,ya]at hd;obtain ⟨⟨_,jo⟩,xa⟩:=hd;have pd : ∀ i,i<ops.size->b8.getD i false=false -> ¬ ∀ o,ops[i]? = some o -> ∀ e∈o.after,Region.binds md e=true->b8.getD e.on false=true:=λ i hi hl kj=>by
   have:i∈Region.ready md ops b8:=mem_ready.2 ⟨by
    have:i<b8.size:=O'
    simp [zb,this]at hl ⊢;exact hl,ops[i],tc hi,λ e he hb=>kj ops[i] (tc hi) e he hb⟩
   rw[hr]at this;simp at this
  by_cases Hs:md = .gc
  ·subst Hs
   rw[Ij rfl]at xa;simp only[Bool.not_true,Bool.false_or,fb,List.mem_range,List.contains_iff_mem]at xa;obtain ⟨k,i,h1,h2,h3⟩:=nG (p:=λ q=>b8.getD q false) (Region.linearise .gc ops 0) ⟨j,xa j hj,db⟩;obtain ⟨o,ho,hh⟩:=Td ops .gc ops.size 0 (Nb ops.size false) Z' k i h1;have hi:i<ops.size:=(sa.1 ho).1;refine pd i hi h2 λ o' Aq e he hb => ?_
   rw[ho]at Aq;obtain rfl:o=o':=by simpa using Aq
   rcases hh e he hb with h4|h4
   ·simp [zb]at h4
   ·exact h3 e.on h4
  ·obtain ⟨k,i,h1,h2,h3⟩:=nG (p:=λ q=>b8.getD q false) (Kc ops.size) ⟨j,by simpa using hj,db⟩
   have ou:i=k:=by
    have pq:k<ops.size:=by have:=(zS h1).1;simpa using this
    rw[Mc pq]at h1;simpa using h1.symm
   subst ou;have hi:i<ops.size:=by have:=(zS h1).1;simpa using this
   refine pd i hi h2 λ o ho e he hb => ?_
   rw[fb]at jo;have ew:(o,i)∈ops.toList.zipIdx:=Hb.2 (by simpa using ho);have h4:=jo (o,i) ew;simp only[Array.all_eq_true_iff_forall_mem,qb,decide_eq_true_eq]at h4;rcases h4 e he with h5|h5
   ·exact h3 e.on (by rw[List.take_range];simp;omega)
   ·exfalso
    unfold Region.binds at hb;split at h5
    ·rename_i row mn
     rw[mn]at hb;simp at hb;exact Hs hb
    ·cases h5
variable {B:Nat} {S:Nat->Prop} {w0:World} {m0:M} {N:Nat}
variable {P:Program} {num:Nat->Nat} {C:Cl} {Q:Exit->Act->World->Prop}
def XL (b8:Array Bool) (n:Nat):Nat:=(Kc n).countP (λ j => !b8.getD j false)
theorem uX {α:Type} {p q:α->Bool} : ∀ {l:List α} {x:α},(∀ y∈l,q y=true->p y=true)->x∈l->p x=true->q x=false->l.countP q<l.countP p
 | [],x,_,hx,_,_=>by simp at hx
 | y::r,x,h,hx,hp,hq=>by
  have hle:r.countP q<=r.countP p:=List.countP_mono_left λ z hz hqz=>h z (by simp [hz]) hqz
  rw[te,te];rcases Lc.1 hx with rfl|hx
  ·simp only[hp,hq,if_true,Ma,if_false]
   omega
  ·have:=uX (l:=r) (λ z hz=>h z (by simp [hz])) hx hp hq
   by_cases Qd:q y=true
   ·simp only[Qd,h y Z' Qd,if_true];omega
   ·simp only[Qd,Ma,if_false]
    split<;>omega
theorem AnH (hC:HW P num C) {l:List AI} (g6:Q8 P num N ops ops.toList l=true) {σ:Nat->St} {rs:List D5} (h:cO C ops l σ rs) (Ij:md = .gc->Region.departs ops=true)
  (hQ : ∀ m' a',m'.own=(σ l.length).own->GQ B S w0 m0 N (e9 (σ l.length).tm) m' a'->Q .normal a' m'.w) :
  ∀ (fuel:Nat) (b8:Array Bool) (a:Act) (m:M),b8.size=ops.size->XL b8 ops.size<=fuel->XW ops (λ j=>b8.getD j false)->m.own=(EC (λ j=>b8.getD j false) rs 0 (d0 σ)).2->GQ B S w0 m0 N (EC (λ j=>b8.getD j false) rs 0 (d0 σ)).1 m a->wpAny P md ops Q fuel b8 a m.w:=by
 have hlen:ops.size=l.length:=by have:=(aY g6).1;simpa using this
 have final : ∀ (b8:Array Bool) (a:Act) (m:M),(∀ j,j<ops.size->b8.getD j false=true)->m.own=(EC (λ j=>b8.getD j false) rs 0 (d0 σ)).2->GQ B S w0 m0 N (EC (λ j=>b8.getD j false) rs 0 (d0 σ)).1 m a->Q .normal a m.w:=λ b8 a m kj j8 hf=>by
  have:EC (λ j=>b8.getD j false) rs 0 (d0 σ)=(e9 (σ l.length).tm,(σ l.length).own):=by
   rw[<-mG h l.length (Na _)];refine fO rs 0 _ λ i hi => ?_
   simp only[eb];rw[kj i (by rw[hlen,<-h.len];exact hi)];simp;rw[<-h.len];exact hi
  rw[this]at j8 hf;exact hQ m a j8 hf
 have Gc : ∀ b8:Array Bool,XL b8 ops.size<=0 -> ∀ j,j<ops.size->b8.getD j false=true:=λ b8 h0 j hj=>by
  have h1:XL b8 ops.size=0:=O'
  unfold XL at h1;rw[List.countP_eq_zero]at h1;simpa using h1 j (by simpa using hj)
 intro fuel;induction fuel with
 | zero =>
  intro b8 a m w4 hn Oa j8 hf;refine ⟨?_,final b8 a m (Gc b8 hn) j8 hf⟩;cases hr:Region.ready md ops b8 with
  | nil=>rfl
  | cons i r =>
   obtain ⟨h1,o,ho,_⟩:=mem_ready.1 (show i∈Region.ready md ops b8 by rw[hr];simp);have hi:i<ops.size:=(sa.1 ho).1;have h2:=Gc b8 hn i hi;have w9:i<b8.size:=O'
   simp [zb,w9]at h1 h2;rw[h1]at h2;cases h2
 | succ fuel ih =>
  intro b8 a m w4 hn Oa j8 hf;refine ⟨λ hr=>final b8 a m (progress h.ok Ij w4 hr) j8 hf,λ i hi => ?_⟩;obtain ⟨h1,o,ho,Dp⟩:=mem_ready.1 hi;have hio:i<ops.size:=(sa.1 ho).1;have w9:i<b8.size:=O'
  have td:b8.getD i false=false:=by
   simp [zb,w9]at h1 ⊢;exact h1
  have zk:i<l.length:=O'
  have bh:i<rs.length:=by rw[h.len];exact zk
  have hx:l[i]? = some l[i]:=zE zk;have hr:rs[i]? = some rs[i]:=zE bh;have fc : ∀ o',ops[i]? = some o' -> ∀ e∈o'.after,Region.binds .any e=true->b8.getD e.on false=true:=λ o' Aq e he hb=>by
   rw[ho]at Aq;obtain rfl:o=o':=by simpa using Aq
   exact Dp e he (Afh hb md)
  obtain ⟨g1,g2,g3,g4⟩:=Ag0 h hx hr Oa td fc;have Py:=(aY g6).2 i o l[i] (by simpa using ho) hx;have yx : ∀ j,(b8.setIfInBounds i true).getD j false=(decide (j=i)||b8.getD j false):=λ j=>by
   by_cases Oz:j=i
   ·subst Oz;simp [zb,w9]
   ·rw[getD_set_ne false (Ne.symm Oz)];simp [Oz]
  refine Zx hC ho Py hf g1 (λ hg=>by rw[j8];exact g2 hg) λ m' a' lq om => ?_
  have mj:=g4 _ yx;refine ih (b8.setIfInBounds i true) a' m' (by simpa using w4) ?_ ?_ ?_ ?_
  ·have j9:XL (b8.setIfInBounds i true) ops.size<XL b8 ops.size:=by
    refine uX (x:=i) (λ j _ hj => ?_) (by simpa using hio) (by simp [td]) (by rw[yx];simp);rw[yx]at hj;simp at hj ⊢;exact hj.2
   omega
  ·intro j oj hj Kz e he hb
   change (b8.setIfInBounds i true).getD j false=true at hj;show (b8.setIfInBounds i true).getD e.on false=true;rw[yx]at hj ⊢;simp only[qb,decide_eq_true_eq]at hj ⊢;rcases hj with rfl|hj
   ·exact .inr (fc oj Kz e he hb)
   ·exact .inr (Oa j oj hj Kz e he hb)
  ·rw[mj,lq,j8]
   rfl
  ·rw[mj]
   rw[j8,g3]at om;have hd:(l[i]).dst=(rs[i]).d:=(h.fits i _ _ hx hr).d.symm;rw[hd]at om;exact om
theorem AnI (hC:HW P num C) {id:Nat} {l:List AI} (g6:Q8 P num N ops ops.toList l=true) (hd:WD ops l=true) {st j5:St} (g9:DJ C l st=some j5) {m:M} {a:Act} (j8:m.own=st.own) (hf:GQ B S w0 m0 N (e9 st.tm) m a)
  (hQ : ∀ m' a',m'.own=j5.own->GQ B S w0 m0 N (e9 j5.tm) m' a'->Q .normal a' m'.w):(Code.region id ops true).wp P Q a m.w:=by
 obtain ⟨σ,rs,h0,h1,hl,h2⟩:=trace g9;have hD:cO C ops l σ rs:=⟨hd,hl,h2⟩;obtain ⟨gn,Dn⟩:=grow hf.mem ((Below.refl m.w.heap.size m.w).drew);have wu:GQ B S w0 m0 N (e9 st.tm) ⟨m.ν,m.own,m.w.drew⟩ a:=⟨gn,hf.ext.trans Dn,λ i=>Dn.cv (hf.tm i),hf.size,hf.defers⟩;have Jy:EC (λ j=>(Nb ops.size false).getD j false) rs 0 (d0 σ)=d0 σ:=nL rs 0 _ λ i _=>by simp [zb]
 have key : ∀ md:Region.Mode,(md = .gc->Region.departs ops=true) -> ∀ t,wpOps P ops Q (Region.linearise md ops t) a m.w.drew:=λ md Ij t=>by
  refine wpAny_sound ops.size t (Nb ops.size false) a m.w.drew ?_;refine AnH hC g6 hD Ij (by rw[h1];exact hQ) ops.size _ a ⟨m.ν,m.own,m.w.drew⟩ Z' ?_ ?_ ?_ ?_
  ·unfold XL
   exact Db List.countP_le_length Z'
  ·intro j o hj
   simp [zb]at hj
  ·rw[Jy];simp [d0,h0,j8]
  ·rw[Jy];simpa [d0,h0] using wu
 refine wp_region_draw λ t => ?_
 change wpOps P ops Q _ a m.w.drew;unfold Region.schedule;split
 ·exact key .any (λ h=>by cases h) t
 ·rename_i Hp
  have hdp:Region.departs ops=true:=by simp at Hp;exact Hp.2
  split
  ·exact key .text (λ_=>hdp) _
  ·exact key .gc (λ_=>hdp) _
end
end Go.c6

namespace Go.c6
open Go.RowKit
section
variable {B:Nat} {S:Nat->Prop} {w0:World} {m0:M} {N:Nat}
variable {P:Program} {num:Nat->Nat} {C:Cl}
theorem And (m:Tm) (l:N') (j:Nat):e9 (af m l) j=e9 m j\/e9 (af m l) j = .any:=by
 induction m with
 | nil=>exact .inl rfl
 | cons x r ih =>
  obtain ⟨i,v⟩:=x;simp only[af];split
  ·by_cases h:j=i
   ·subst h
    rename_i hc;right
    clear ih;induction r with
    | nil=>rfl
    | cons y q ih =>
     obtain ⟨k,u⟩:=y;simp only[af];split
     ·exact ih
     ·rename_i hk
      have : ¬ j=k:=λ e=>by subst e;exact hk hc
      simp only[e9,if_neg this];exact ih
   ·rcases ih with h1|h1
    ·left;simp only[e9,if_neg h];exact h1
    ·right;exact h1
  ·by_cases h:j=i
   ·left;simp [e9,h]
   ·simp only[e9,if_neg h]
    exact ih
inductive JK (P:Program) (num:Nat->Nat) (N:Nat):List It->List Item->Prop
 | nil:JK P num N [] []
 | code {c:Code} {a:BK} {k:List It} {t:List Item} (h:FQ P num N c a=true) (hk:JK P num N k t):JK P num N (.code a::k) (.code c::t)
 | drop {ts ss:N'} {k:List It} {t:List Item} (hk:JK P num N k t):JK P num N (.kx ts ss::k) t
 | c9 {id:Nat} {k:List It} {t:List Item} (hk:JK P num N k t):JK P num N (.c9 id::k) (.inBlock id::t)
 | lp {c:Code} {a:BK} {k:List It} {t:List Item} (h:FQ P num N c a=true) (hk:JK P num N k t):JK P num N (.lp a::k) (.inLoop c::t)
 | scope {c:Code} {k:List It} {t:List Item} (hk:JK P num N k t):JK P num N k (.inScope c::t)
theorem Xu {b:Frame} {a:Act} {k:List Item} {cs:List Frame} {w:World} {c:Code}:step P (lone (b.at a (.inScope c::k)) cs w) = .next (lone (b.at a k) cs w) :=
 step_lone_go (by simp [stepG,stepG.exec,Frame.at])
theorem AmZ {b:Frame} {a:Act} {k:List Item} {cs:List Frame} {w:World} {c:Code}:step P (lone (b.at a (.code (.scope c)::k)) cs w) = .next (lone (b.at a (.code c :: .inScope c::k)) cs w) :=
 step_lone_go (by simp [stepG,stepG.exec,Frame.at])
theorem YK {id:Nat} : ∀ {k:List It} {t:List Item},JK P num N k t -> ∀ {k':List It},EG id k=some k' -> ∃ t',exitTo id t=some t'/\JK P num N k' t'
 | _,_,.nil,k',h=>by simp [EG]at h
 | _,_,.code h0 hk,k',h=>by
  simp only[EG]at h;obtain ⟨t',h1,h2⟩:=YK hk h;exact ⟨t',by simpa [exitTo] using h1,h2⟩
 | _,_,.drop hk,k',h=>by
  simp only[EG]at h;exact YK hk h
 | _,_,.c9 (id:=Ll) hk,k',h=>by
  simp only[EG]at h;split at h
  ·rename_i he
   subst he;simp only[za]at h;subst h;exact ⟨_,by simp [exitTo],hk⟩
  ·rename_i he
   obtain ⟨t',h1,h2⟩:=YK hk h;exact ⟨t',by simpa [exitTo,he] using h1,h2⟩
 | _,_,.lp h0 hk,k',h=>by
  simp only[EG]at h;obtain ⟨t',h1,h2⟩:=YK hk h;exact ⟨t',by simpa [exitTo] using h1,h2⟩
 | _,_,.scope hk,k',h=>by
  obtain ⟨t',h1,h2⟩:=YK hk h;exact ⟨t',by simpa [exitTo] using h1,h2⟩
def rW (B:Nat) (S:Nat->Prop) (w0:World) (m0:M) (N:Nat) (P:Program) (b:Frame) (cs:List Frame) (Rs:Machine) (j5:St):Prop :=
 ∃ a' m' m8,Steps P Rs (lone { b.at a' m8 with mode := .returning } cs m'.w)/\m'.own=j5.own/\GQ B S w0 m0 N (e9 j5.tm) m' a'
theorem Amo (hC:HW P num C) (b:Frame) (cs:List Frame) : ∀ (n:Nat) (k:List It) (st j5:St),run C n k st=some j5 -> ∀ (t:List Item),JK P num N k t -> ∀ (m:M) (a:Act),m.own=st.own->GQ B S w0 m0 N (e9 st.tm) m a ->
  rW B S w0 m0 N P b cs (lone (b.at a t) cs m.w) j5:=by
 intro n;induction n with
 | zero=>intro k st j5 h;simp [run]at h
 | succ n ih =>
  intro k st j5 h t ht;have fin : ∀ (t:List Item),JK P num N [] t -> ∀ (m:M) (a:Act),m.own=st.own->GQ B S w0 m0 N (e9 st.tm) m a->st=j5->rW B S w0 m0 N P b cs (lone (b.at a t) cs m.w) j5:=by
   intro t ht;generalize hk:([]:List It)=kk at ht;induction ht with
   | nil =>
    intro m a j8 hf he;subst he;exact ⟨a,m,[],.one step_end,j8,hf⟩
   | scope je lz =>
    intro m a j8 hf he;obtain ⟨a',m',m8,h1,h2⟩:=lz hk m a j8 hf he;exact ⟨a',m',m8,.head Xu h1,h2⟩
   | code=>cases hk
   | drop=>cases hk
   | c9=>cases hk
   | lp=>cases hk
  cases k with
  | nil =>
   intro m a j8 hf;simp only[run,za]at h;exact fin t ht m a j8 hf h
  | cons it k =>
   generalize fo:it::k=kk at ht;induction ht with
   | nil=>cases fo
   | scope je lz =>
    intro m a j8 hf;obtain ⟨a',m',m8,h1,h2⟩:=lz fo m a j8 hf;exact ⟨a',m',m8,.head Xu h1,h2⟩
   | @c9 id k2 t2 je lz =>
    intro m a j8 hf;obtain ⟨rfl,rfl⟩:it = .c9 id/\k=k2:=by simpa using fo
    simp only[run]at h;obtain ⟨a',m',m8,h1,h2⟩:=ih k st j5 h t2 je m a j8 hf;exact ⟨a',m',m8,.head step_inBlock h1,h2⟩
   | @lp c ac k2 t2 g6 je lz =>
    intro m a j8 hf;obtain ⟨rfl,rfl⟩:it = .lp ac/\k=k2:=by simpa using fo
    simp only[run]at h;obtain ⟨a',m',m8,h1,h2⟩:=ih _ st j5 h (.code c :: .inLoop c::t2) (.code g6 (.lp g6 je)) m a j8 hf;exact ⟨a',m',m8,.head step_inLoop h1,h2⟩
   | @drop ts ss k2 t2 je lz =>
    intro m a j8 hf;obtain ⟨rfl,rfl⟩:it = .kx ts ss/\k=k2:=by simpa using fo
    simp only[run]at h;obtain ⟨nj,he⟩:=Ag2 hf.mem ss;have om:GQ B S w0 m0 N (e9 (af st.tm ts)) ⟨m.ν,m.own.drop ss,m.w⟩ a:=⟨nj,hf.ext.trans he,λ i=>by
     rcases And st.tm ts i with h1|h1
     ·rw[h1];exact he.cv (hf.tm i)
     ·rw[h1];exact .any _,hf.size,hf.defers⟩
    obtain ⟨a',m',m8,h1,h2,h3⟩:=ih k ⟨af st.tm ts,st.own.drop ss⟩ j5 h t2 je ⟨m.ν,m.own.drop ss,m.w⟩ a (by simp [j8]) om;exact ⟨a',m',m8,h1,h2,h3⟩
   | @code c ac k2 t2 g6 je lz =>
    obtain ⟨rfl,rfl⟩:it = .code ac/\k=k2:=by simpa using fo
    clear lz fo;intro m a j8 hf;cases ac with
    | dr ac ts ss =>
     simp only[FQ]at g6;simp only[run]at h;exact ih _ st j5 h _ (.code g6 (.drop je)) m a j8 hf
    | skip =>
     simp only[run]at h;cases c with
     | skip =>
      obtain ⟨a',m',m8,h1,h2⟩:=ih _ st j5 h _ je m a j8 hf;exact ⟨a',m',m8,.head step_skip h1,h2⟩
     | label =>
      obtain ⟨a',m',m8,h1,h2⟩:=ih _ st j5 h _ je m a j8 hf;exact ⟨a',m',m8,.head step_label h1,h2⟩
     | _=>simp [FQ]at g6
    | scope ac =>
     simp only[run]at h;cases c with
     | scope c =>
      simp only[FQ]at g6;obtain ⟨a',m',m8,h1,h2⟩:=ih _ st j5 h _ (.code g6 (.scope (c:=c) je)) m a j8 hf;exact ⟨a',m',m8,.head AmZ h1,h2⟩
     | _=>simp [FQ]at g6
    | seq a1 a2 =>
     simp only[run]at h;cases c with
     | seq c1 c2 =>
      simp only[FQ,ya]at g6;obtain ⟨a',m',m8,h1,h2⟩:=ih _ st j5 h _ (.code g6.1 (.code g6.2 je)) m a j8 hf;exact ⟨a',m',m8,.head step_seq h1,h2⟩
     | _=>simp [FQ]at g6
    | cond x a1 a2 =>
     simp only[run]at h;cases c with
     | cond xc c1 c2 =>
      simp only[FQ,ya]at g6;have w5:CV B S m (st.ev x) (a.eval xc):=by rw[xD];exact hf.says xc x g6.1.1
      split at h
      ·rename_i hx
       rw[hx]at w5;obtain ⟨a',m',m8,h1,h2⟩:=ih _ st j5 h _ (.code g6.1.2 je) m a j8 hf;exact ⟨a',m',m8,.head (step_cond (V8 w5)) h1,h2⟩
      ·rename_i hx
       rw[hx]at w5;obtain ⟨a',m',m8,h1,h2⟩:=ih _ st j5 h _ (.code g6.2 je) m a j8 hf;exact ⟨a',m',m8,.head (step_cond (V8 w5)) h1,h2⟩
      ·cases h
     | _=>simp [FQ]at g6
    | block id ac =>
     simp only[run]at h;cases c with
     | block Ll c =>
      simp only[FQ,ya,beq_iff_eq]at g6;obtain ⟨rfl,g6⟩:=g6;obtain ⟨a',m',m8,h1,h2⟩:=ih _ st j5 h _ (.code g6 (.c9 je)) m a j8 hf;exact ⟨a',m',m8,.head step_block h1,h2⟩
     | _=>simp [FQ]at g6
    | loop ac =>
     simp only[run]at h;cases c with
     | loop c =>
      simp only[FQ]at g6;obtain ⟨a',m',m8,h1,h2⟩:=ih _ st j5 h _ (.code g6 (.lp g6 je)) m a j8 hf;exact ⟨a',m',m8,.head step_loop h1,h2⟩
     | _=>simp [FQ]at g6
    | exit id =>
     simp only[run]at h;cases c with
     | exit Ll =>
      simp only[FQ,beq_iff_eq]at g6;subst g6;split at h
      ·rename_i k' ic
       obtain ⟨t',e1,e2⟩:=YK je ic;obtain ⟨a',m',m8,h1,h2⟩:=ih _ st j5 h _ e2 m a j8 hf;exact ⟨a',m',m8,.head (step_exit e1) h1,h2⟩
      ·cases h
     | _=>simp [FQ]at g6
    | ret =>
     simp only[run,za]at h;subst h;cases c with
     | ret=>exact ⟨a,m,.code .ret::t2,.one step_ret,j8,hf⟩
     | _=>simp [FQ]at g6
    | ops l draw =>
     simp only[run]at h;split at h
     ·rename_i BH Ji
      cases c with
      | region id ops sj =>
       simp only[FQ,ya,beq_iff_eq]at g6;obtain ⟨⟨rfl,Ip⟩,qo⟩:=g6;have hwp:(Code.region id ops sj).wp P (λ e a' w'=>e = .normal /\ ∃ m',m'.w=w'/\m'.own=BH.own/\GQ B S w0 m0 N (e9 BH.tm) m' a') a m.w:=by
        cases sj with
        | true=>exact AnI hC Ip (by simpa using qo) Ji j8 hf λ m' a' h1 h2=>⟨rfl,m',rfl,h1,h2⟩
        | false =>
         refine wp_region ?_;rw[List.range_eq_range'];exact Zy hC Ip ops.size 0 st BH m a O' (by simpa using Ji) j8 hf λ m' a' h1 h2=>⟨rfl,m',rfl,h1,h2⟩
       obtain ⟨e,a1,w1,⟨rfl,m1,rfl,Iq,wu⟩,Nl⟩:=hwp b t2 cs;obtain ⟨a',m',m8,h1,h2,h3⟩:=ih _ BH j5 h _ je m1 a1 Iq wu;exact ⟨a',m',m8,Steps.trans Nl h1,h2,h3⟩
      | _=>simp [FQ]at g6
     ·cases h
end
end Go.c6

namespace Go.c6
open Go.RowKit
section
variable {P:Program} {num:Nat->Nat} {L:Lib}
def ProgOK (P : Program) (num : Nat → Nat) (L : Lib) : Prop := (∀ f fa, L f = some fa → ∃ fn, P.funcs[num f]? = some fn ∧ okFn P num fn fa = true ∧ (fn.name == "runtime.NumGoroutine") = false) ∧ L.num = num
theorem Tz : ∀ (args:u_) (k i:Nat),e9 (C5 k args) i=if k<=i then (match args[i-k]? with|some v=>v|none => .any) else .any
 | [],k,i=>by simp [C5,e9]
 | v::r,k,i=>by
  simp only[C5,e9];by_cases h:i=k
  ·subst h;simp
  ·rw[if_neg h,Tz r (k+1) i]
   by_cases h2:k<=i
   ·rw[if_pos h2,if_pos O']
    have:i-k=(i-(k+1))+1:=O'
    rw[this];simp
   ·rw[if_neg h2,if_neg O']
section
variable {B:Nat} {S:Nat->Prop} {w0:World} {m0:M} {N:Nat}
def iK (tmps:Array Value):ResultVar->Sem Value
 | .tmp t=>pure (tmps.getD t undef)
 | .cell x t=>do loadVar t (<-asAddr (tmps.getD x undef))
theorem Afk {m:M} {x v:AV} {u:Value} (h:JZ x=some v) (w5:CV B S m x u):CA B S m v u:=by
 cases w5 with
 | any=>simp [JZ]at h
 | c5=>simp [JZ]at h
 | ca hc =>
  have:x=v:=by
   cases hc with
   | one hc=>cases hc with
    | rd hr=>cases hr<;>simpa [JZ] using h
    | _=>simpa [JZ] using h
   | fn=>simpa [JZ] using h
   | ux=>simpa [JZ] using h
   | agg=>simpa [JZ] using h
  subst this;exact hc
theorem pY {m:M} {a:Act} {st:St} (hf:GQ B S w0 m0 N (e9 st.tm) m a) (j8:m.own=st.own) : ∀ {rv:List ResultVar} {ra:List KW} {vs:u_},NJ P rv ra=true->ra.mapM (F7 st)=some vs ->
  ∃ us:List Value,(rv.mapM (iK a.tmps)).run P m.w = .ok us m.w/\vs.length=us.length /\ ∀ (j:Nat) (c:AV) (v:Value),vs[j]? = some c->us[j]? = some v->CA B S m c v
 | [],[],vs,_,h=>by
  simp at h;subst h;exact ⟨[],Z',rfl,λ j c v hc=>by simp at hc⟩
 | .tmp t::r,.tmp t'::l,vs,g6,h=>by
  simp only[NJ,ya,beq_iff_eq]at g6;obtain ⟨rfl,g6⟩:=g6;simp only[Da,Ba,vb]at h;cases hv:F7 st (.tmp t) with
  | none=>simp [hv]at h
  | some v =>
   cases hr:l.mapM (F7 st) with
   | none=>simp [hv,hr]at h
   | some vr =>
    simp [hv,hr]at h;subst h;obtain ⟨us,h1,h2,h3⟩:=pY hf j8 g6 hr;have w5:=hf.tm t;have ni:CA B S m v (a.tmps.getD t undef):=Afk hv w5;refine ⟨a.tmps.getD t undef::us,?_,by simp [h2],λ j c u hc hu => ?_⟩
    ·simp only[Da,Sem.run_bind,iK,Sem.run_pure,Result.andThen_ok,h1]
    ·cases j with
     | zero =>
      obtain rfl:v=c:=by simpa using hc
      obtain rfl:a.tmps.getD t undef=u:=oa hu;exact ni
     | succ j=>exact h3 j c u (by simpa using hc) (by simpa using hu)
 | .cell x t::r,.cell x' agg n::l,vs,g6,h=>by
  simp only[NJ,ya,beq_iff_eq]at g6;obtain ⟨⟨⟨rfl,jn⟩,hn⟩,g6⟩:=g6;simp only[Da,Ba,vb]at h;cases hv:F7 st (.cell x agg n) with
  | none=>simp [hv]at h
  | some v =>
   cases hr:l.mapM (F7 st) with
   | none=>simp [hv,hr]at h
   | some vr =>
    simp [hv,hr]at h;subst h;obtain ⟨us,h1,h2,h3⟩:=pY hf j8 g6 hr;have w5:=hf.tm x;simp only[F7]at hv;split at hv
    ·rename_i s u i j hx
     rw[hx]at w5;split at hv
     ·rename_i cs dh
      rw[<-j8]at dh;obtain ⟨ad,bf,ht,hb⟩:=Z8 w5;obtain ⟨b,g,arr,e,n6,hg,bj,gd,l9,ik⟩:=Wx hf.mem dh;obtain ⟨AAa,iz⟩:=gX hv l9;have hld:=qB (P:=P) t agg n (kG (by simpa using jn)) (by
       cases agg
       ·simpa using hn
       ·exact NQ (by simpa using hn)) ad bj gd m.w (λ q u' hq=>by
       have j9:q<bj.length:=(zS hq).1;obtain ⟨Ak,ke⟩:=hg O';obtain ⟨g',fk,rfl⟩:=hb b n6;obtain rfl:g=g':=by rw[Ak]at fk;simpa using fk
       rw[IJ,dO ke];exact ik q u' hq)
      have Pl:(iK a.tmps (.cell x t)).run P m.w = .ok (if agg then .agg bj.toArray else bj.getD 0 undef) m.w:=by
       show (do loadVar t (<-asAddr (a.tmps.getD x undef)):Sem Value).run P m.w=_;rw[bf];simpa [asAddr,Instr.loadAt,Instr.sureAddr] using hld
      have ni:CA B S m v (if agg then .agg bj.toArray else bj.getD 0 undef):=by
       unfold LB at hv;cases agg with
       | true =>
        simp only[if_true,za]at hv;subst hv;exact .agg cs bj l9
       | false =>
        simp only[Ma,if_false]at hv ⊢;split at hv
        ·rename_i c
         simp only[za]at hv;subst hv;obtain ⟨u',mr,w7⟩:=X6 l9 (j:=0) (c:=c) rfl;simp only[Od,mr,pc];exact .one w7
        ·cases hv
      refine ⟨(if agg then .agg bj.toArray else bj.getD 0 undef)::us,?_,by simp [h2],λ j' c u' hc hu => ?_⟩
      ·rw[Da,Sem.run_bind,Pl,Result.andThen_ok,Sem.run_bind,h1,Result.andThen_ok]
       rfl
      ·cases j' with
       | zero =>
        obtain rfl:v=c:=by simpa using hc
        obtain rfl:=oa hu;exact ni
       | succ j'=>exact h3 j' c u' (by simpa using hc) (by simpa using hu)
     ·cases hv
    ·cases hv
 | [],_::_,_,g6,_=>by simp [NJ]at g6
 | .tmp _::_,[],_,g6,_=>by simp [NJ]at g6
 | .cell _ _::_,[],_,g6,_=>by simp [NJ]at g6
 | .tmp _::_,.cell _ _ _::_,_,g6,_=>by simp [NJ]at g6
 | .cell _ _::_,.tmp _::_,_,g6,_=>by simp [NJ]at g6
end
theorem tV (hP:ProgOK P num L) {f:Nat} {fa:AFn} (hL:L f=some fa) (us:Array Value) (w:World):(callFunc (num f) us).run P w = .ok (.enter (num f) us) w:=by
 obtain ⟨fn,h1,h2,h3⟩:=hP.1 f fa hL;have hb:fn.body.isNone=false:=by
  simp only[okFn,ya]at h2;cases hbd:fn.body with
  | none=>rw[hbd]at h2;simp at h2
  | some c=>rfl
 unfold callFunc;simp only[Sem.run_bind,run_program,Result.andThen_ok,h1,h3,hb,Ma,if_false,Sem.run_pure]
theorem Ub (hP:ProgOK P num L) {n:Nat} (hC:HW P num (C3 L n)) {f:Nat} {vs:u_} {own:AJ} {r:AV} {m4:AJ} (h:DR L (n+1) f vs own=some (r,m4)) (B:Nat) (S:Nat->Prop) (w0:World) (m:M) (us:List Value) (j8:m.own=own) (hm:BW B S w0 m) (hl:vs.length=us.length)
  (w5 : ∀ (j:Nat) (c:AV) (v:Value),vs[j]? = some c->us[j]? = some v->CV B S m c v) :
  Calls P (num f) us.toArray m.w λ e w' => ∃ u m',e = .returned u/\m'.w=w'/\m'.own=m4/\BW B S w0 m'/\DY B S m m'/\CV B S m' r u:=by
 rw[aC]at h;cases hL:L f with
 | none=>simp [hL]at h
 | some fa =>
  simp only[hL]at h;split at h
  ·rename_i Ir
   split at h
   ·rename_i st o8
    split at h
    ·rename_i rvs xo
     simp only[za,Prod.mk.injEq]at h;obtain ⟨rfl,rfl⟩:=h;obtain ⟨fn,h1,h2,h3⟩:=hP.1 f fa hL;simp only[okFn,ya,beq_iff_eq,decide_eq_true_eq]at h2;obtain ⟨⟨⟨h4,h5⟩,h6⟩,h7⟩:=h2;split at h7
     ·rename_i c hc
      intro cs;have Dq:Frame.enter P (num f) us.toArray .normal=({ (default:Frame) with fn:=num f,kind := .normal }:Frame).at { tmps:=us.toArray++Nb (fn.ntmps-us.toArray.size) undef,defers:=[] } [.code c]:=by
       simp [Frame.enter,Frame.at,h1,hc]
      have w4:us.length=fa.ay:=by rw[<-hl];exact Ir
      have Oi:GQ B S w0 m fn.ntmps (e9 (C5 0 vs)) m { tmps:=us.toArray++Nb (fn.ntmps-us.toArray.size) undef,defers:=[] }:=by
       refine ⟨hm,DY.refl m,λ i => ?_,by simp;omega,rfl⟩;rw[Tz];simp only[Nat.zero_le,if_true,Nat.sub_zero];cases Fq:vs[i]? with
       | none=>exact .any _
       | some v =>
        have hi:i<us.length:=by rw[<-hl];exact (zS Fq).1
        have n6:(us.toArray++Nb (fn.ntmps-us.toArray.size) undef).getD i undef=us[i]:=by
         rw[Array.getD_eq_getD_getElem?,yc (by simpa using hi)];simp [hi]
        simp only[n6];exact w5 i v us[i] Fq (zE hi)
      obtain ⟨a',m',m8,Ej,lq,om⟩:=Amo (m0:=m) hC { (default:Frame) with fn:=num f,kind := .normal } cs n [.code fa.body] ⟨C5 0 vs,own⟩ st o8 [.code c] (.code h7 .nil) m _ j8 Oi;obtain ⟨zx,tf,nn,hu3⟩:=pY (P:=P) om lq h6 xo;have As:(results fn a'.tmps).run P m'.w = .ok (if h:zx.length=1 then zx[0] else .tuple zx.toArray) m'.w:=by
       have hr:results fn a'.tmps=(do let vs <-fn.results.mapM (iK a'.tmps);pure (if h:vs.size=1 then vs[0] else .tuple vs)):=rfl;rw[hr,Sem.run_bind,Array.mapM_eq_mapM_toList];simp [tf]
      refine ⟨.returned (if h:zx.length=1 then zx[0] else .tuple zx.toArray),m'.w,_,⟨_,m',rfl,rfl,lq,om.mem,om.ext,?_⟩,by rw[Dq];exact Ej,rfl,rfl,om.defers,rfl,fn,h1,As⟩;unfold JD;split
      ·rename_i v
       have Ac:zx.length=1:=by rw[<-nn];rfl
       rw[dif_pos Ac];exact .ca (hu3 0 v zx[0] rfl (zE O'))
      ·rename_i k7
       have Ac : ¬ zx.length=1:=λ e=>by
        rw[<-nn]at e;cases rvs with
        | nil=>simp at e
        | cons q qs=>cases qs with
         | nil=>exact k7 q rfl
         | cons=>simp at e
       rw[dif_neg Ac];exact .c5 rvs zx nn hu3
     ·cases h7
    ·cases h
   ·cases h
  ·cases h
theorem AkK (S:Nat->Prop) (w:World):BW w.heap.size S w ⟨λ_ _=>none,AJ.emp,w⟩ :=
 ⟨Below.refl _ _,Na _,λ_ _ _=>rfl,λ s t b h=>by simp [AJ.get,AJ.emp]at h,λ s t s' t' b b' g h=>by simp [AJ.get,AJ.emp]at h⟩
theorem wT {n f:Nat} {vs:u_} {own:AJ} {r:AV × AJ} (h:DR L n f vs own=some r) : ∃ fa,L f=some fa:=by
 cases n with
 | zero=>simp [DR]at h
 | succ n =>
  rw[aC]at h;cases hL:L f with
  | none=>simp [hL]at h
  | some fa=>exact ⟨fa,rfl⟩
theorem pO {n f:Nat} {vs:u_} {r:AV} (h:JX (λ vs=>DR L n f vs AJ.emp) vs=some r) : ∃ r0 o,DR L n f vs AJ.emp=some (r0,o)/\VF o false r0=some r/\A3 r:=by
 unfold JX at h;cases he:DR L n f vs AJ.emp with
 | none=>simp [he]at h
 | some x =>
  obtain ⟨r0,o⟩:=x;simp only[he]at h;split at h
  ·rename_i r' hr
   split at h
   ·rename_i hc
    simp only[za]at h;subst h;exact ⟨r0,o,rfl,hr,hc⟩
   ·cases h
  ·cases h
theorem mP {n f:Nat} {vs:u_} {r:AV} (h:H6 L n f vs=some r) : ∃ bj,∃ x,DR L n f bj AJ.emp=some x:=by
 unfold H6 ML at h;split at h
 ·split at h
  ·rename_i r1 r2 h1 h2
   obtain ⟨r0,o,h3,_⟩:=pO h1;exact ⟨_,_,h3⟩
  ·cases h
 ·obtain ⟨r0,o,h3,_⟩:=pO h
  exact ⟨_,_,h3⟩
theorem pP (hP:ProgOK P num L) {n:Nat} (ih:HW P num (C3 L n)) {f:Nat} {vs:u_} {r:AV} (h:JX (λ vs=>DR L (n+1) f vs AJ.emp) vs=some r) (S:Nat->Prop) (w:World) (us:List Value) (hl:vs.length=us.length)
  (ni : ∀ (j:Nat) (c:AV) (v:Value),vs[j]? = some c->us[j]? = some v->CA w.heap.size S ⟨λ_ _=>none,AJ.emp,w⟩ c v) :
  Calls P (num f) us.toArray w λ e w' => ∃ u,e = .returned u/\Below w.heap.size w w'/\CV w.heap.size S ⟨λ_ _=>none,AJ.emp,w'⟩ r u/\A3 r:=by
 obtain ⟨r0,o,h1,h2,h3⟩:=pO (L:=L) h;refine Calls.mono (Ub hP ih h1 w.heap.size S w ⟨λ_ _=>none,AJ.emp,w⟩ us rfl (AkK S w) hl λ j c v hc hv => .ca (ni j c v hc hv)) λ e w' ⟨u,m',he,hw,j8,nj,_,w5⟩ => ?_
 subst hw;refine ⟨u,he,nj.below,?_,h3⟩;refine DV.cv (m:=⟨λ_ _=>none,AJ.emp,m'.w⟩) (AmM nj false (safe w.heap.size S ⟨λ_ _=>none,AJ.emp,m'.w⟩) (λ l b hb hs => ?_) (λ s t g iw hg => ?_) (by rw[j8];exact h2) w5)
 ·rcases hs with h|⟨h,_⟩|h
  ·exact .inl h
  ·exact .inr (.inl ⟨h,λ s t iw=>by simp [AJ.get,AJ.emp]at iw⟩)
  ·exact .inr (.inr h)
 ·exact .inr (.inl ⟨(nj.ge iw hg).1,λ s t iw=>by simp [AJ.get,AJ.emp]at iw⟩)
theorem Afm (hP:ProgOK P num L) : ∀ n,HW P num (C3 L n):=by
 intro n;induction n with
 | zero =>
  exact ⟨λ f vs r h=>by obtain ⟨bj,x,h1⟩:=mP (L:=L) (n:=0) (f:=f) (vs:=vs) (r:=r) h;simp [DR]at h1,λ f vs own r h=>by change DR L 0 f vs own=some r at h;simp [DR]at h,
   λ f vs r h=>by obtain ⟨bj,x,h1⟩:=mP (L:=L) (n:=0) (f:=f) (vs:=vs) (r:=r) h;simp [DR]at h1,λ f vs own r m4 h=>by change DR L 0 f vs own=_ at h;simp [DR]at h,hP.2⟩
 | succ n ih =>
  refine ⟨λ f vs r h us w => ?_,λ f vs own r h us w => ?_,λ f vs r h S w us hl ni => ?_,λ f vs own r m4 h B S w0 m us j8 hm hl w5=>Ub hP ih h B S w0 m us j8 hm hl w5,hP.2⟩
  ·obtain ⟨bj,x,h1⟩:=mP (L:=L) h
   obtain ⟨fa,hL⟩:=wT h1;exact tV hP hL us w
  ·obtain ⟨fa,hL⟩:=wT (L:=L) h
   exact tV hP hL us w
  ·have h:ML (L.ry f) (λ vs=>DR L (n+1) f vs AJ.emp) vs=some r:=h
   unfold ML at h;split at h
   ·rename_i q bj _ _
    split at h
    ·rename_i r1 r2 h1 h2
     split at h
     ·rename_i e
      subst e;obtain rfl:=oa h;cases us with
      | nil=>simp at hl
      | cons u us =>
       have h0:=ni 0 _ u rfl rfl;have hu : ∃ a cap,u = .slice a 0 cap:=by
        cases h0 with
        | one h0=>cases h0 with
         | rd h0=>cases h0 with
          | ka l a cap=>exact ⟨a,cap,rfl⟩
          | sl l es b o a8 cap u k7=>exact absurd rfl k7
       obtain ⟨a,cap,rfl⟩:=hu;have key : ∀ b,a.isNone=b -> ∀ (j:Nat) (c:AV) (v:Value),(AV.cp (.bool b)::bj)[j]? = some c->(Value.slice a 0 cap::us)[j]? = some v->CA w.heap.size S ⟨λ_ _=>none,AJ.emp,w⟩ c v:=λ b hb j c v hc hv=>by
        cases j with
        | zero =>
         obtain rfl:=oa hc;obtain rfl:=oa hv;exact .one (.rd (.emp b a cap hb))
        | succ j=>exact ni (j+1) c v hc hv
       cases hb:a.isNone with
       | true=>exact pP hP ih h1 S w _ (by simpa using hl) (key true hb)
       | false=>exact pP hP ih h2 S w _ (by simpa using hl) (key false hb)
     ·cases h
    ·cases h
   ·exact pP hP ih h S w us hl ni
end
end Go.c6
namespace Go.c6
abbrev OkF (P : Program) (num : Nat → Nat) (p : Nat × AFn) : Prop := ∃ fn, P.funcs[num p.1]? = some fn ∧ okFn P num fn p.2 = true ∧ (fn.name == "runtime.NumGoroutine") = false
theorem AlD {P:Program} {num:Nat->Nat} (l:List (Nat × AFn)) (h : ∀ p∈l,OkF P num p):ProgOK P num ⟨λ f=>l.lookup f,num⟩:=by
 refine ⟨?_,rfl⟩;intro f fa hf;have hm:(f,fa)∈l:=by
  clear h;change l.lookup f=some fa at hf;induction l with
  | nil=>simp at hf
  | cons x r ih =>
   obtain ⟨k,v⟩:=x;rw[List.lookup_cons]at hf;cases hk:(f == k) with
   | true =>
    rw[hk]at hf;have:f=k:=by simpa using hk
    subst this;simp at hf;simp [hf]
   | false =>
    rw[hk]at hf;exact List.mem_cons_of_mem _ (ih hf)
 exact h (f,fa) hm
end Go.c6

namespace Go.c6
section
variable {L:Lib}
def Cl.le (C C':Cl):Prop:=(∀ f vs r,C.pure f vs=some r->C'.pure f vs=some r)/\(∀ f vs o r,C.fe f vs o=some r->C'.fe f vs o=some r)/\C.num=C'.num
theorem tF {x y:Option (AV × AJ)} {r:Nat × o_} (h : ∀ q,x=some q->y=some q) (hr:N7 x=some r):N7 y=some r:=by
 cases x with
 | none=>simp [N7]at hr
 | some q=>rw[h q rfl];exact hr
theorem Ahb {C C':Cl} (h:C.le C') {b7:N'} {ρ:AU->AV} {own:AJ} {op:EI} {E:CI} (he:c8 C b7 ρ own op=some E):c8 C' b7 ρ own op=some E:=by
 cases op with
 | call f xs =>
  simp only[c8]at he ⊢;split at he
  ·rename_i vs ik
   simp only[ua]at he ⊢;obtain ⟨r,hr,rfl⟩:=he;exact ⟨r,h.1 f vs r hr,rfl⟩
  ·cases he
 | c7 f xs =>
  simp only[c8]at he ⊢;split at he
  ·simp only[ua]at he ⊢
   obtain ⟨p,hp,rfl⟩:=he;have h1:=dL hp;exact ⟨p,dK h1.1 λ o ho=>h.2.1 f _ o _ (h1.2 o ho),rfl⟩
  ·simp only[ua]at he ⊢
   obtain ⟨r,hr,rfl⟩:=he;exact ⟨r,h.2.1 f _ own r hr,rfl⟩
 | ri p f xs=>simp only[c8]at he ⊢;rw[<-h.2.2];exact he
 | ti f x=>simp only[c8]at he ⊢;rw[<-h.2.2];exact he
 | cg s f xs =>
  simp only[c8,ua]at he ⊢;obtain ⟨p,hp,rfl⟩:=he;exact ⟨p,dN.2 λ o ho=>h.2.1 f _ o _ (dN.1 hp o ho),rfl⟩
 | n7 s f xs =>
  simp only[c8]at he ⊢;split at he
  ·rename_i vs ik
   simp only[ua]at he ⊢;obtain ⟨r,hr,rfl⟩:=he;exact ⟨r,tF (h.2.1 f vs AJ.emp) hr,rfl⟩
  ·cases he
 | j6 f xs =>
  simp only[c8]at he ⊢;split at he
  ·rename_i hq
   rw[if_pos hq];split at he
   ·rename_i r hr
    rw[h.1 _ _ r hr];exact he
   ·cases he
  ·cases he
 | m9 x xs =>
  simp only[c8]at he ⊢;rw[<-h.2.2];split at he
  ·split at he
   ·rename_i hg
    rw[if_pos hg];split at he
    ·split at he
     ·rename_i vs ik
      simp only[ua]at he ⊢;obtain ⟨r,hr,rfl⟩:=he;exact ⟨r,h.1 _ vs r hr,rfl⟩
     ·cases he
    ·simp only[ua]at he ⊢
     obtain ⟨r,hr,rfl⟩:=he;exact ⟨r,h.2.1 _ _ own r hr,rfl⟩
    ·split at he
     ·rename_i vs ik
      simp only[ua]at he ⊢;obtain ⟨r,hr,rfl⟩:=he;exact ⟨r,h.1 _ vs r hr,rfl⟩
     ·cases he
   ·cases he
  ·cases he
 | _=>exact he
theorem AmX {C C':Cl} (h:C.le C') {o:AI} {st j5:St} (he:DB C o st=some j5):DB C' o st=some j5:=by
 unfold DB at he ⊢;split at he
 ·simp only[ua]at he ⊢
  obtain ⟨E,h1,h2⟩:=he;exact ⟨E,Ahb h h1,h2⟩
 ·exact he
 ·exact he
theorem NR {C C':Cl} (h:C.le C') : ∀ {l:List AI} {st j5:St},DJ C l st=some j5->DJ C' l st=some j5
 | [],st,j5,he=>he
 | o::r,st,j5,he=>by
  simp only[DJ]at he ⊢;cases hs:DB C o st with
  | none=>simp [hs]at he
  | some BH =>
   rw[AmX h hs];simp only[hs]at he;exact NR h he
theorem KT {C C':Cl} (h:C.le C') : ∀ {n n':Nat} {k:List It} {st j5:St},n<=n'->run C n k st=some j5->run C' n' k st=some j5:=by
 intro n;induction n with
 | zero=>intro n' k st j5 _ hr;simp [run]at hr
 | succ n ih =>
  intro n' k st j5 hn hr;obtain ⟨q,rfl⟩ : ∃ q,n'=q+1:=⟨n'-1,O'⟩;have hq:n<=q:=O'
  cases k with
  | nil=>exact hr
  | cons it k =>
   cases it with
   | c9 id=>simp only[run]at hr ⊢;exact ih hq hr
   | kx ts ss=>simp only[run]at hr ⊢;exact ih hq hr
   | lp c=>simp only[run]at hr ⊢;exact ih hq hr
   | code c =>
    cases c with
    | skip=>simp only[run]at hr ⊢;exact ih hq hr
    | ops l d =>
     simp only[run]at hr ⊢;cases hs:DJ C l st with
     | none=>simp [hs]at hr
     | some BH =>
      rw[NR h hs];simp only[hs]at hr;exact ih hq hr
    | dr c ts ss=>simp only[run]at hr ⊢;exact ih hq hr
    | scope c=>simp only[run]at hr ⊢;exact ih hq hr
    | seq a b=>simp only[run]at hr ⊢;exact ih hq hr
    | cond x a b =>
     simp only[run]at hr ⊢;split at hr
     ·exact ih hq hr
     ·exact ih hq hr
     ·cases hr
    | block id c=>simp only[run]at hr ⊢;exact ih hq hr
    | loop c=>simp only[run]at hr ⊢;exact ih hq hr
    | exit id =>
     simp only[run]at hr ⊢;split at hr
     ·exact ih hq hr
     ·cases hr
    | ret=>exact hr
theorem bE {I I':u_->Option (AV × AJ)} (hI : ∀ vs r,I vs=some r->I' vs=some r) {vs:u_} {r:AV} (h:JX I vs=some r):JX I' vs=some r:=by
 unfold JX at h ⊢;cases he:I vs with
 | none=>simp [he]at h
 | some x=>rw[hI vs _ he];simpa [he] using h
theorem AlE {b:Bool} {I I':u_->Option (AV × AJ)} (hI : ∀ vs r,I vs=some r->I' vs=some r) {vs:u_} {r:AV} (h:ML b I vs=some r):ML b I' vs=some r:=by
 unfold ML at h ⊢;split at h
 ·split at h
  ·rename_i r1 r2 h1 h2
   rw[bE hI h1,bE hI h2];exact h
  ·cases h
 ·exact bE hI h
theorem xM : ∀ (n:Nat),(C3 L n).le (C3 L (n+1)):=by
 have fe : ∀ n,(∀ f vs o r,DR L n f vs o=some r->DR L (n+1) f vs o=some r) -> ∀ f vs r,H6 L n f vs=some r->H6 L (n+1) f vs=some r:=by
  intro n hI f vs r h;exact AlE (λ vs r h=>hI f vs _ r h) h
 intro n;induction n with
 | zero =>
  have : ∀ f vs o r,DR L 0 f vs o=some r->DR L 1 f vs o=some r:=λ f vs o r h=>by simp [DR]at h
  exact ⟨fe 0 this,this,rfl⟩
 | succ n ih =>
  have : ∀ f vs o r,DR L (n+1) f vs o=some r->DR L (n+2) f vs o=some r:=λ f vs o r h=>by
   rw[aC]at h ⊢;cases hL:L f with
   | none=>simp [hL]at h
   | some fn =>
    simp only[hL]at h ⊢;split at h
    ·rename_i hp
     rw[if_pos hp];cases hr:run (C3 L n) n [.code fn.body] ⟨C5 0 vs,o⟩ with
     | none=>simp [hr]at h
     | some st =>
      rw[KT ih (Nat.le_succ n) hr];simpa [hr] using h
    ·cases h
  exact ⟨fe (n+1) this,this,rfl⟩
theorem FW {n n':Nat} (h:n<=n'):(C3 L n).le (C3 L n'):=by
 induction h with
 | refl=>exact ⟨λ_ _ _ h=>h,λ_ _ _ _ h=>h,rfl⟩
 | step _ ih=>exact ⟨λ f vs r h=>(xM _).1 f vs r (ih.1 f vs r h),λ f vs o r h=>(xM _).2.1 f vs o r (ih.2.1 f vs o r h),rfl⟩
def Ev (L:Lib) (f:Nat) (vs:u_) (r:AV):Prop := ∃ n,H6 L n f vs=some r
def GW (L:Lib) (f:Nat) (vs:u_) (r:AV):Prop := ∃ n,JX (λ vs=>DR L n f vs AJ.emp) vs=some r
def HL (L:Lib) (f:Nat) (vs:u_) (o:AJ) (r:AV) (o':AJ):Prop := ∃ n,DR L n f vs o=some (r,o')
def LM (L:Lib) (f:Nat) (vs:u_) (z:Nat) (es:o_):Prop := ∃ n,N7 (DR L n f vs AJ.emp)=some (z,es)
theorem Ev.Cw {f:Nat} {vs:u_} {r r':AV} (h:Ev L f vs r) (h':Ev L f vs r'):r=r':=by
 obtain ⟨n,hn⟩:=h;obtain ⟨n',py⟩:=h';have h1:=(FW (L:=L) (Ga n n')).1 f vs r hn;have h2:=(FW (L:=L) (Ia n n')).1 f vs r' py;rw[h1]at h2;exact oa h2
theorem HL.Cw {f:Nat} {vs:u_} {o:AJ} {r r':AV} {o1 o2:AJ} (h:HL L f vs o r o1) (h':HL L f vs o r' o2):r=r'/\o1=o2:=by
 obtain ⟨n,hn⟩:=h;obtain ⟨n',py⟩:=h';have h1:=(FW (L:=L) (Ga n n')).2.1 f vs o _ hn;have h2:=(FW (L:=L) (Ia n n')).2.1 f vs o _ py;rw[h1]at h2;simpa using h2
def AK (L:Lib) (k:List It) (st:St) (Q:St->Prop):Prop := ∃ n c j5,run (C3 L c) n k st=some j5/\Q j5
def AO (L:Lib) (l:List AI) (k:List It) (st:St) (Q:St->Prop):Prop := ∃ n c BH j5,DJ (C3 L c) l st=some BH/\run (C3 L c) n k BH=some j5/\Q j5
variable {k:List It} {st:St} {Q:St->Prop}
theorem LJ {it:It} {k':List It} {BH:St} (h : ∀ (C:Cl) (n:Nat),run C (n+1) (it::k) st=run C n k' BH):AK L (it::k) st Q↔AK L k' BH Q:=by
 constructor
 ·rintro ⟨n,c,j5,hr,hq⟩
  cases n with
  | zero=>simp [run]at hr
  | succ n=>exact ⟨n,c,j5,by rw[<-h];exact hr,hq⟩
 ·rintro ⟨n,c,j5,hr,hq⟩
  exact ⟨n+1,c,j5,by rw[h];exact hr,hq⟩
theorem AdF:AK L [] st Q↔Q st:=by
 constructor
 ·rintro ⟨n,c,j5,hr,hq⟩
  cases n with
  | zero=>simp [run]at hr
  | succ n=>simp only[run,za]at hr;exact hr ▸ hq
 ·exact λ h=>⟨1,0,st,rfl,h⟩
theorem Adx {id:Nat}:AK L (.c9 id::k) st Q↔AK L k st Q:=LJ λ_ _=>rfl
theorem AdB {ts ss:N'}:AK L (.kx ts ss::k) st Q↔AK L k ⟨af st.tm ts,st.own.drop ss⟩ Q:=LJ λ_ _=>rfl
theorem rS {c:BK}:AK L (.lp c::k) st Q↔AK L (.code c :: .lp c::k) st Q:=LJ λ_ _=>rfl
theorem AdK:AK L (.code .skip::k) st Q↔AK L k st Q:=LJ λ_ _=>rfl
theorem AdA {c:BK} {ts ss:N'}:AK L (.code (.dr c ts ss)::k) st Q↔AK L (.code c :: .kx ts ss::k) st Q:=LJ λ_ _=>rfl
theorem AdI {c:BK}:AK L (.code (.scope c)::k) st Q↔AK L (.code c::k) st Q:=LJ λ_ _=>rfl
theorem AdJ {a b:BK}:AK L (.code (.seq a b)::k) st Q↔AK L (.code a :: .code b::k) st Q:=LJ λ_ _=>rfl
theorem Ady {id:Nat} {c:BK}:AK L (.code (.block id c)::k) st Q↔AK L (.code c :: .c9 id::k) st Q:=LJ λ_ _=>rfl
theorem AdD {c:BK}:AK L (.code (.loop c)::k) st Q↔AK L (.code c :: .lp c::k) st Q:=LJ λ_ _=>rfl
theorem AdC {id:Nat} {k':List It} (h:EG id k=some k'):AK L (.code (.exit id)::k) st Q↔AK L k' st Q:=LJ λ C n=>by simp [run,h]
theorem AdH:AK L (.code .ret::k) st Q↔Q st:=by
 constructor
 ·rintro ⟨n,c,j5,hr,hq⟩
  cases n with
  | zero=>simp [run]at hr
  | succ n=>simp only[run,za]at hr;exact hr ▸ hq
 ·exact λ h=>⟨1,0,st,rfl,h⟩
theorem Adz {x:AU} {a b:BK} {t:Bool} (h:st.ev x = .bool t):AK L (.code (.cond x a b)::k) st Q↔if t=true then AK L (.code a::k) st Q else AK L (.code b::k) st Q:=by
 cases t
 ·simpa using LJ (k' := .code b::k) (BH:=st) λ C n=>by simp [run,h]
 ·simpa using LJ (k' := .code a::k) (BH:=st) λ C n=>by simp [run,h]
theorem AdG {l:List AI} {d:Bool}:AK L (.code (.ops l d)::k) st Q↔AO L l k st Q:=by
 constructor
 ·rintro ⟨n,c,j5,hr,hq⟩
  cases n with
  | zero=>simp [run]at hr
  | succ n =>
   simp only[run]at hr;split at hr
   ·rename_i BH hs
    exact ⟨n,c,BH,j5,hs,hr,hq⟩
   ·cases hr
 ·rintro ⟨n,c,BH,j5,hs,hr,hq⟩
  exact ⟨n+1,c,j5,by simp [run,hs,hr],hq⟩
theorem AdU:AO L [] k st Q↔AK L k st Q:=by
 constructor
 ·rintro ⟨n,c,BH,j5,hs,hr,hq⟩
  simp only[DJ,za]at hs;exact ⟨n,c,j5,hs ▸ hr,hq⟩
 ·rintro ⟨n,c,j5,hr,hq⟩
  exact ⟨n,c,st,j5,rfl,hr,hq⟩
theorem AdX {o:AI} {l:List AI} {BH:St} (h : ∀ C,DB C o st=some BH):AO L (o::l) k st Q↔AO L l k BH Q:=by
 constructor
 ·rintro ⟨n,c,BT,j5,hs,hr,hq⟩
  simp only[DJ,h]at hs;exact ⟨n,c,BT,j5,hs,hr,hq⟩
 ·rintro ⟨n,c,BT,j5,hs,hr,hq⟩
  exact ⟨n,c,BT,j5,by simpa only[DJ,h] using hs,hr,hq⟩
theorem AdV {d:Option Nat} {op:EI} {g:Option (Nat × Bool)} {b7:N'} {l:List AI} (h:GD st g=some false):AO L (⟨d,op,g,b7⟩::l) k st Q↔AO L l k (st.dst d (.c5 [])) Q :=
 AdX λ C=>by simp [DB,h]
theorem X5 (c:Nat):(C3 L c).num=L.num:=rfl
theorem AdW {d:Option Nat} {op:EI} {g:Option (Nat × Bool)} {b7:N'} {l:List AI} {E:CI} (h:GD st g=some true) (he : ∀ c,c8 (C3 L c) b7 st.ev st.own op=some E):AO L (⟨d,op,g,b7⟩::l) k st Q↔AO L l k (st.app d E) Q:=by
 have h : ∀ c,DB (C3 L c) ⟨d,op,g,b7⟩ st=some (st.app d E):=λ c=>by simp [DB,h,he]
 constructor
 ·rintro ⟨n,c,BT,j5,hs,hr,hq⟩
  simp only[DJ,h]at hs;exact ⟨n,c,BT,j5,hs,hr,hq⟩
 ·rintro ⟨n,c,BT,j5,hs,hr,hq⟩
  exact ⟨n,c,BT,j5,by simpa only[DJ,h] using hs,hr,hq⟩
theorem AdM {d:Option Nat} {f:Nat} {xs:List AU} {g:Option (Nat × Bool)} {b7:N'} {l:List AI} {vs:u_} {r:AV} (h:GD st g=some true) (hv:(xs.map st.ev).mapM (DE (st.own.m7 b7) true)=some vs) (hr:Ev L f vs r) :
  AO L (⟨d,.call f xs,g,b7⟩::l) k st Q↔AO L l k (st.dst d r) Q:=by
 have g9 : ∀ c r',H6 L c f vs=some r'->DB (C3 L c) ⟨d,.call f xs,g,b7⟩ st=some (st.dst d r'):=λ c r' hc=>by
  have o7:(C3 L c).pure f vs=some r':=hc;simp [DB,h,c8,hv,o7,St.app]
 constructor
 ·rintro ⟨n,c,BT,j5,hs,fp,hq⟩
  simp only[DJ]at hs;cases hI:DB (C3 L c) ⟨d,.call f xs,g,b7⟩ st with
  | none=>simp [hI]at hs
  | some BH =>
   simp only[hI]at hs;cases hp:H6 L c f vs with
   | none =>
    have o7:(C3 L c).pure f vs=none:=hp;simp [DB,h,c8,hv,o7]at hI
   | some r' =>
    obtain rfl:r'=r:=Ev.Cw ⟨c,hp⟩ hr;rw[g9 c r' hp]at hI;obtain rfl:=oa hI;exact ⟨n,c,BT,j5,hs,fp,hq⟩
 ·rintro ⟨n,c,BT,j5,hs,fp,hq⟩
  obtain ⟨c',o7⟩:=hr;have l1:=FW (L:=L) (Ga c c');have l2:=FW (L:=L) (Ia c c');refine ⟨n,max c c',BT,j5,?_,KT l1 (Na n) fp,hq⟩;simp only[DJ];rw[g9 (max c c') r (l2.1 f vs r o7)];exact NR l1 hs
theorem AdP {d:Option Nat} {f:Nat} {x:AU} {xs:List AU} {g:Option (Nat × Bool)} {b7:N'} {l:List AI} {vs:u_} {r:AV} (h:GD st g=some true) (hx:st.ev x = .fn true f (L.num f) []) (hv:(xs.map st.ev).mapM (DE st.own true)=some vs) (hr:Ev L f vs r) :
  AO L (⟨d,.m9 x xs,g,b7⟩::l) k st Q↔AO L l k (st.dst d r) Q:=by
 have g9 : ∀ c r',H6 L c f vs=some r'->DB (C3 L c) ⟨d,.m9 x xs,g,b7⟩ st=some (st.dst d r'):=λ c r' hc=>by
  have o7:(C3 L c).pure f vs=some r':=hc;simp [DB,h,c8,hx,X5,hv,o7,St.app]
 constructor
 ·rintro ⟨n,c,BT,j5,hs,fp,hq⟩
  simp only[DJ]at hs;cases hI:DB (C3 L c) ⟨d,.m9 x xs,g,b7⟩ st with
  | none=>simp [hI]at hs
  | some BH =>
   simp only[hI]at hs;cases hp:H6 L c f vs with
   | none =>
    have o7:(C3 L c).pure f vs=none:=hp;simp [DB,h,c8,hx,X5,hv,o7]at hI
   | some r' =>
    obtain rfl:r'=r:=Ev.Cw ⟨c,hp⟩ hr;rw[g9 c r' hp]at hI;obtain rfl:=oa hI;exact ⟨n,c,BT,j5,hs,fp,hq⟩
 ·rintro ⟨n,c,BT,j5,hs,fp,hq⟩
  obtain ⟨c',o7⟩:=hr;have l1:=FW (L:=L) (Ga c c');have l2:=FW (L:=L) (Ia c c');refine ⟨n,max c c',BT,j5,?_,KT l1 (Na n) fp,hq⟩;simp only[DJ];rw[g9 (max c c') r (l2.1 f vs r o7)];exact NR l1 hs
theorem AdN {d:Option Nat} {f:Nat} {w:AV} {cs:u_} {x:AU} {xs:List AU} {g:Option (Nat × Bool)} {b7:N'} {l:List AI} {vs:u_} {r:AV} (h:GD st g=some true) (hx:st.ev x = .fn true f (L.num f) (w::cs)) (hv:(AV.agg (w::cs)::xs.map st.ev).mapM (DE st.own true)=some vs) (hr:Ev L f vs r) :
  AO L (⟨d,.m9 x xs,g,b7⟩::l) k st Q↔AO L l k (st.dst d r) Q:=by
 have g9 : ∀ c r',H6 L c f vs=some r'->DB (C3 L c) ⟨d,.m9 x xs,g,b7⟩ st=some (st.dst d r'):=λ c r' hc=>by
  have o7:(C3 L c).pure f vs=some r':=hc;simp [DB,h,c8,hx,X5,hv,o7,St.app]
 constructor
 ·rintro ⟨n,c,BT,j5,hs,fp,hq⟩
  simp only[DJ]at hs;cases hI:DB (C3 L c) ⟨d,.m9 x xs,g,b7⟩ st with
  | none=>simp [hI]at hs
  | some BH =>
   simp only[hI]at hs;cases hp:H6 L c f vs with
   | none =>
    have o7:(C3 L c).pure f vs=none:=hp;simp [DB,h,c8,hx,X5,hv,o7]at hI
   | some r' =>
    obtain rfl:r'=r:=Ev.Cw ⟨c,hp⟩ hr;rw[g9 c r' hp]at hI;obtain rfl:=oa hI;exact ⟨n,c,BT,j5,hs,fp,hq⟩
 ·rintro ⟨n,c,BT,j5,hs,fp,hq⟩
  obtain ⟨c',o7⟩:=hr;have l1:=FW (L:=L) (Ga c c');have l2:=FW (L:=L) (Ia c c');refine ⟨n,max c c',BT,j5,?_,KT l1 (Na n) fp,hq⟩;simp only[DJ];rw[g9 (max c c') r (l2.1 f vs r o7)];exact NR l1 hs
theorem AdQ {d:Option Nat} {f:Nat} {xs:List AU} {g:Option (Nat × Bool)} {b7:N'} {l:List AI} {r:AV} (h:GD st g=some true) (hq:(xs.map st.ev).all dq=true) (hr:Ev L f ((xs.map st.ev).map zu) r) (dp:KY r\/VT r) :
  AO L (⟨d,.j6 f xs,g,b7⟩::l) k st Q↔AO L l k (st.dst d (NF r)) Q:=by
 have g9 : ∀ c,H6 L c f ((xs.map st.ev).map zu)=some r->DB (C3 L c) ⟨d,.j6 f xs,g,b7⟩ st=some (st.dst d (NF r)):=λ c hc=>by
  have o7:(C3 L c).pure f ((xs.map st.ev).map zu)=some r:=hc;simp only[DB,h,c8];rw[if_pos hq,o7];simp only[if_pos dp,Pa,St.app]
 constructor
 ·rintro ⟨n,c,BT,j5,hs,fp,Cb⟩
  simp only[DJ]at hs;cases hp:H6 L c f ((xs.map st.ev).map zu) with
  | none =>
   have o7:(C3 L c).pure f ((xs.map st.ev).map zu)=none:=hp;simp only[DB,h,c8]at hs;rw[if_pos hq,o7]at hs;simp at hs
  | some r' =>
   obtain rfl:r'=r:=Ev.Cw ⟨c,hp⟩ hr;rw[g9 c hp]at hs;exact ⟨n,c,BT,j5,hs,fp,Cb⟩
 ·rintro ⟨n,c,BT,j5,hs,fp,Cb⟩
  obtain ⟨c',o7⟩:=hr;have l1:=FW (L:=L) (Ga c c');have l2:=FW (L:=L) (Ia c c');refine ⟨n,max c c',BT,j5,?_,KT l1 (Na n) fp,Cb⟩;simp only[DJ];rw[g9 (max c c') (l2.1 f _ r o7)];exact NR l1 hs
theorem AdR {d:Option Nat} {s f:Nat} {xs:List AU} {g:Option (Nat × Bool)} {b7:N'} {l:List AI} {vs:u_} {z:Nat} {es:o_} (h:GD st g=some true) (hv:(xs.map st.ev).mapM (P2 (st.own.m7 b7) true)=some vs) (hr:LM L f vs z es)
  (ha:AO L l k (st.app d (.new s ⟨z,es⟩ (λ t => .row s t z 0 es.length))) Q):AO L (⟨d,.n7 s f xs,g,b7⟩::l) k st Q:=by
 obtain ⟨n,c,BT,j5,hs,fp,hq⟩:=ha;obtain ⟨c',o7⟩:=hr;have l1:=FW (L:=L) (Ga c c');have l2:=FW (L:=L) (Ia c c');have im:N7 ((C3 L (max c c')).fe f vs AJ.emp)=some (z,es):=tF (l2.2.1 f vs AJ.emp) o7;refine ⟨n,max c c',BT,j5,?_,KT l1 (Na n) fp,hq⟩;simp only[DJ];have:DB (C3 L (max c c')) ⟨d,.n7 s f xs,g,b7⟩ st=some (st.app d (.new s ⟨z,es⟩ (λ t => .row s t z 0 es.length))):=by
  simp only[DB,h,c8,hv,im,Pa]
 rw[this];exact NR l1 hs
def sB (L:Lib) (s f:Nat) (vs:u_) (q:CO) (r:AV) (q':CO):Prop := ∃ n,∀ o:AJ,o s=q->DR L n f vs o=some (r,o.put s q')
theorem AdT {d:Option Nat} {s f:Nat} {xs:List AU} {g:Option (Nat × Bool)} {b7:N'} {l:List AI} {r:AV} {q':CO} (h:GD st g=some true) (hr:sB L s f (xs.map st.ev) (st.own s) r q')
  (ha:AO L l k (st.app d (.zw s q' r)) Q):AO L (⟨d,.cg s f xs,g,b7⟩::l) k st Q:=by
 obtain ⟨n,c,BT,j5,hs,fp,hq⟩:=ha;obtain ⟨c',o7⟩:=hr;have l1:=FW (L:=L) (Ga c c');have l2:=FW (L:=L) (Ia c c');have im:dM (C3 L (max c c')) f (xs.map st.ev) s (st.own s)=some (r,q'):=dN.2 λ o ho=>l2.2.1 f _ o _ (o7 o ho)
 refine ⟨n,max c c',BT,j5,?_,KT l1 (Na n) fp,hq⟩;simp only[DJ];have:DB (C3 L (max c c')) ⟨d,.cg s f xs,g,b7⟩ st=some (st.app d (.zw s q' r)):=by
  simp only[DB,h,c8,im,Pa]
 rw[this];exact NR l1 hs
theorem AdL {d:Option Nat} {f s:Nat} {xs:List AU} {g:Option (Nat × Bool)} {l:List AI} {r:AV} {o':AJ} (h:GD st g=some true) (h0:o' s=⟨0,λ_=>none⟩) (hr : ∃ n,∀ o:AJ,(∀ q,q≠s->o q=st.own q)->DR L n f (xs.map st.ev) o=some (r,o'.put s (o s)))
  (ha:AO L l k { (st.dst d r) with own:=o'.put s (st.own s) } Q):AO L (⟨d,.c7 f xs,g,[s]⟩::l) k st Q:=by
 obtain ⟨n,c,BT,j5,hs,fp,hq⟩:=ha;obtain ⟨c',o7⟩:=hr;have l1:=FW (L:=L) (Ga c c');have l2:=FW (L:=L) (Ia c c');have im:N9 (C3 L (max c c')) f (xs.map st.ev) s st.own=some (r,o'):=dK h0 λ o ho=>l2.2.1 f _ o _ (o7 o ho)
 refine ⟨n,max c c',BT,j5,?_,KT l1 (Na n) fp,hq⟩;simp only[DJ];have:DB (C3 L (max c c')) ⟨d,.c7 f xs,g,[s]⟩ st=some { (st.dst d r) with own:=o'.put s (st.own s) }:=by
  simp only[DB,h,c8,im,Pa,St.app]
 rw[this];exact NR l1 hs
theorem AdO {d:Option Nat} {f:Nat} {xs:List AU} {g:Option (Nat × Bool)} {b7:N'} {l:List AI} {r:AV} {o':AJ} (hb : ∀ s,b7≠[s]) (h:GD st g=some true) (hr:HL L f (xs.map st.ev) st.own r o') :
  AO L (⟨d,.c7 f xs,g,b7⟩::l) k st Q↔AO L l k { (st.dst d r) with own:=o' } Q:=by
 have g9 : ∀ c r' o1,DR L c f (xs.map st.ev) st.own=some (r',o1)->DB (C3 L c) ⟨d,.c7 f xs,g,b7⟩ st=some { (st.dst d r') with own:=o1 }:=λ c r' o1 hc=>by
  have o7:(C3 L c).fe f (xs.map st.ev) st.own=some (r',o1):=hc;have he:c8 (C3 L c) b7 st.ev st.own (.c7 f xs)=some (.dw r' o1):=by
   match b7,hb with
   | [],_=>simp only[c8];rw[o7];rfl
   | [s],hb=>exact absurd rfl (hb s)
   | s::s'::q,_=>simp only[c8];rw[o7];rfl
  simp [DB,h,he,St.app]
 constructor
 ·rintro ⟨n,c,BT,j5,hs,fp,hq⟩
  simp only[DJ]at hs;cases hI:DB (C3 L c) ⟨d,.c7 f xs,g,b7⟩ st with
  | none=>simp [hI]at hs
  | some BH =>
   simp only[hI]at hs;cases hp:DR L c f (xs.map st.ev) st.own with
   | none =>
    have o7:(C3 L c).fe f (xs.map st.ev) st.own=none:=hp;have he:c8 (C3 L c) b7 st.ev st.own (.c7 f xs)=none:=by
     match b7,hb with
     | [],_=>simp only[c8];rw[o7];rfl
     | [s],hb=>exact absurd rfl (hb s)
     | s::s'::q,_=>simp only[c8];rw[o7];rfl
    simp [DB,h,he]at hI
   | some x =>
    obtain ⟨r',o1⟩:=x;obtain ⟨rfl,rfl⟩:=HL.Cw ⟨c,hp⟩ hr;rw[g9 c r' o1 hp]at hI;obtain rfl:=oa hI;exact ⟨n,c,BT,j5,hs,fp,hq⟩
 ·rintro ⟨n,c,BT,j5,hs,fp,hq⟩
  obtain ⟨c',o7⟩:=hr;have l1:=FW (L:=L) (Ga c c');have l2:=FW (L:=L) (Ia c c');refine ⟨n,max c c',BT,j5,?_,KT l1 (Na n) fp,hq⟩;simp only[DJ];rw[g9 (max c c') r o' (l2.2.1 f _ _ _ o7)];exact NR l1 hs
theorem AdS {d:Option Nat} {f:Nat} {cs:u_} {x:AU} {xs:List AU} {g:Option (Nat × Bool)} {b7:N'} {l:List AI} {r:AV} {o':AJ} (h:GD st g=some true) (hx:st.ev x = .fn false f (L.num f) cs) (hr:HL L f (xs.map st.ev++cs) st.own r o') :
  AO L (⟨d,.m9 x xs,g,b7⟩::l) k st Q↔AO L l k { (st.dst d r) with own:=o' } Q:=by
 have g9 : ∀ c r' o1,DR L c f (xs.map st.ev++cs) st.own=some (r',o1)->DB (C3 L c) ⟨d,.m9 x xs,g,b7⟩ st=some { (st.dst d r') with own:=o1 }:=λ c r' o1 hc=>by
  have o7:(C3 L c).fe f (xs.map st.ev++cs) st.own=some (r',o1):=hc;simp [DB,h,c8,hx,X5,o7,St.app]
 constructor
 ·rintro ⟨n,c,BT,j5,hs,fp,hq⟩
  simp only[DJ]at hs;cases hI:DB (C3 L c) ⟨d,.m9 x xs,g,b7⟩ st with
  | none=>simp [hI]at hs
  | some BH =>
   simp only[hI]at hs;cases hp:DR L c f (xs.map st.ev++cs) st.own with
   | none =>
    have o7:(C3 L c).fe f (xs.map st.ev++cs) st.own=none:=hp;simp [DB,h,c8,hx,X5,o7]at hI
   | some x =>
    obtain ⟨r',o1⟩:=x;obtain ⟨rfl,rfl⟩:=HL.Cw ⟨c,hp⟩ hr;rw[g9 c r' o1 hp]at hI;obtain rfl:=oa hI;exact ⟨n,c,BT,j5,hs,fp,hq⟩
 ·rintro ⟨n,c,BT,j5,hs,fp,hq⟩
  obtain ⟨c',o7⟩:=hr;have l1:=FW (L:=L) (Ga c c');have l2:=FW (L:=L) (Ia c c');refine ⟨n,max c c',BT,j5,?_,KT l1 (Na n) fp,hq⟩;simp only[DJ];rw[g9 (max c c') r o' (l2.2.1 f _ _ _ o7)];exact NR l1 hs
theorem AdE {Q':St->Prop} (h:AK L k st Q) (hq : ∀ s,Q s->Q' s):AK L k st Q':=by
 obtain ⟨n,c,j5,hr,hh⟩:=h;exact ⟨n,c,j5,hr,hq _ hh⟩
theorem HL.intro {f:Nat} {fn:AFn} {vs:u_} {o:AJ} {r:AV} {o':AJ} (hL:L f=some fn) (hp:vs.length=fn.ay) (h:AK L [.code fn.body] ⟨C5 0 vs,o⟩ (λ st=>(fn.res.mapM (F7 st)).map JD=some r/\st.own=o')):HL L f vs o r o':=by
 obtain ⟨n,c,j5,hr,h1,h2⟩:=h;refine ⟨max n c+1,?_⟩;rw[aC];simp only[hL,hp,if_true];rw[KT (FW (L:=L) (Ia n c)) (Ga n c) hr];cases hm:fn.res.mapM (F7 j5) with
 | none=>rw[hm]at h1;cases h1
 | some rs =>
  rw[hm]at h1;simp only[Pa,za]at h1;simp [hm,h1,h2]
theorem GW.intro {f:Nat} {fn:AFn} {vs:u_} {r:AV} (hL:L f=some fn) (hp:vs.length=fn.ay) (h:AK L [.code fn.body] ⟨C5 0 vs,AJ.emp⟩ (λ st=>((fn.res.mapM (F7 st)).map JD).bind (VF st.own false)=some r/\A3 r)):GW L f vs r:=by
 obtain ⟨n,c,j5,hr,h1,h2⟩:=h;cases hm:(fn.res.mapM (F7 j5)).map JD with
 | none=>rw[hm]at h1;cases h1
 | some r0 =>
  rw[hm]at h1;simp only[Ad]at h1;obtain ⟨q,hq⟩:=HL.intro (o:=AJ.emp) (r:=r0) (o':=j5.own) hL hp ⟨n,c,j5,hr,hm,rfl⟩;refine ⟨q,?_⟩;unfold JX;simp [hq,h1,h2]
theorem GW.ev {f:Nat} {fn:AFn} {vs:u_} {r:AV} (hL:L f=some fn) (h:GW L f vs r) (hs:fn.ry=false:=by rfl):Ev L f vs r:=by
 obtain ⟨n,h⟩:=h;have hs:L.ry f=false:=by simp only[Lib.ry,hL,hs]
 exact ⟨n,by unfold H6 ML;rw[hs];exact h⟩
theorem GW.cons {f:Nat} {q:Bool} {e:u_} {es:o_} {vs:u_} {r:AV} (h:GW L f (.sl q (e::es)::vs) r):Ev L f (.sl q (e::es)::vs) r:=by
 obtain ⟨n,h⟩:=h;refine ⟨n,?_⟩;unfold H6 ML;split
 ·rename_i heq;simp at heq
 ·exact h
theorem GW.nil {f:Nat} {fn:AFn} {q:Bool} {vs:u_} {r:AV} (hL:L f=some fn) (h1:GW L f (.cp (.bool true)::vs) r) (h2:GW L f (.cp (.bool false)::vs) r) (hs:fn.ry=true:=by rfl):Ev L f (.sl q []::vs) r:=by
 obtain ⟨n,h1⟩:=h1;obtain ⟨n',h2⟩:=h2;have hs:L.ry f=true:=by simp only[Lib.ry,hL,hs]
 have k1:=bE (λ vs r h=>(FW (L:=L) (Ga n n')).2.1 f vs AJ.emp r h) h1;have k2:=bE (λ vs r h=>(FW (L:=L) (Ia n n')).2.1 f vs AJ.emp r h) h2;refine ⟨max n n',?_⟩;unfold H6 ML;rw[hs];simp only;have k1':JX (λ vs=>DR L (max n n') f vs AJ.emp) (.cp (.bool true)::vs)=some r:=k1;have k2':JX (λ vs=>DR L (max n n') f vs AJ.emp) (.cp (.bool false)::vs)=some r:=k2;rw[k1',k2'];simp
theorem Ev.intro {f:Nat} {fn:AFn} {vs:u_} {r:AV} (hL:L f=some fn) (hp:vs.length=fn.ay) (h:AK L [.code fn.body] ⟨C5 0 vs,AJ.emp⟩ (λ st=>((fn.res.mapM (F7 st)).map JD).bind (VF st.own false)=some r/\A3 r)) (hs:fn.ry=false:=by rfl):Ev L f vs r :=
 (GW.intro hL hp h).ev hL hs
end
end Go.c6

namespace Go.c6
section
variable {L:Lib} {k:List It} {tm:Tm} {own:AJ} {Q:St->Prop} {l:List AI} {b7:N'} {d:Nat}
theorem cG (i:Nat) (v:AV) (r:Tm) (j:Nat):e9 ((i,v)::r) j=if j=i then v else e9 r j:=rfl
theorem Ane (j:Nat):e9 [] j = .any:=rfl
theorem Am9 (i:Nat) (v:AV) (r:Tm) (l:N'):af ((i,v)::r) l=if l.contains i then af r l else (i,v)::af r l:=rfl
theorem Ana (l:N'):af [] l=[]:=rfl
theorem AjS (i:Nat) (v:AV) (r:u_):C5 i (v::r)=(i,v)::C5 (i+1) r:=rfl
end
end Go.c6

namespace Go.c6
section
variable {L:Lib} {k:List It} {tm:Tm} {own:AJ} {st:St} {Q:St->Prop} {l:List AI} {b7:N'} {d:Nat} {dst:Option Nat}
section
variable {x y:AU} {kd:IntKind} {a b:Int}
end
def ZR (fn:AFn) (r:AV) (st:St):Prop:=((fn.res.mapM (F7 st)).map JD).bind (VF st.own false)=some r/\A3 r
theorem Ev.fwd {f:Nat} {fn:AFn} {vs:u_} {r:AV} (hL:L f=some fn) (hp:vs.length=fn.ay) (h:AK L [.code fn.body] ⟨C5 0 vs,AJ.emp⟩ (ZR fn r)) (hs:fn.ry=false:=by rfl):Ev L f vs r:=Ev.intro hL hp h hs
theorem GW.fwd {f:Nat} {fn:AFn} {vs:u_} {r:AV} (hL:L f=some fn) (hp:vs.length=fn.ay) (h:AK L [.code fn.body] ⟨C5 0 vs,AJ.emp⟩ (ZR fn r)):GW L f vs r:=GW.intro hL hp h
end
attribute [irreducible] ZR
end Go.c6
