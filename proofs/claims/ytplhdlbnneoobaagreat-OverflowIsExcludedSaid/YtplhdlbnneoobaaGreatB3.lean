/-
  The checker: is an abstract code the reading of a code of the model? Types are resolved here (offsets, sizes, zeros), functions are known by stable numbers ('num': the number in the program).
-/
import Derived.Test.YtplhdlbnneoobaaGreatB1
import Derived.Calls
import Derived.Test.YtplhdlbnneoobaaGreatB2
import Derived.Below
import Derived.Laws.CopyRow
import Derived.Laws.Cells
import Derived.Laws.MakeOwn
import Derived.Laws.AppendOwn
import Derived.Deep.AppendSrc
import Derived.Deep.Draws
import Derived.ArgAppend
import Derived.Laws.StructEq
import Derived.ChangeKeysEq
set_option linter.unusedSimpArgs false
set_option linter.unusedVariables false
set_option linter.unnecessarySimpa false
namespace Go.c6
def cF:Value->AV->Bool
 | .int k n,.int k' n'=>k == k'&&n == n'
 | .bool b,.bool b'=>b == b'
 | .slice none 0 0,.nil=>true
 | .string s,.aj (.string s')=>s.data.toList == s'.data.toList
 | .nilFunc,.aj .nilFunc=>true
 | _,_=>false
def R6:List Value->List AV->Bool
 | [],[]=>true
 | v::r,a::l=>cF v a&&R6 r l
 | _,_=>false
def jN:Value->AV->Bool
 | .agg cs,.agg l=>R6 cs.toList l
 | v,a=>cF v a
def B6:Operand->AU->Bool
 | .tmp t,.t n=>t == n
 | .const v,.c a=>jN v a
 | .func g,.c (.fn _ _ g' [])=>g == g'
 | _,_=>false
def EX:List Operand->List AU->Bool
 | [],[]=>true
 | v::r,a::l=>B6 v a&&EX r l
 | _,_=>false
def Q4:Option Operand->Option AU->Bool
 | none,none=>true
 | some x,some y=>B6 x y
 | _,_=>false
section
variable (P:Program)
def V1 (t:TypeId):Option Bool :=
 match P.underlying t with
 | some (.struct _)=>some true
 | some (.array _ _)=>some true
 | some _=>some false
 | none=>none
def LA (t:TypeId) (n:Nat):Bool:=match P.info? t with|some i=>i.size == n|none=>false
def bG (t:TypeId) (n:Nat):Bool:=match P.info? t with|some i=>i.bytes == n|none=>false
def VS (t:TypeId) (l:List AV):Bool:=match P.info? t with|some i=>(match i.zero with|some z=>R6 z.cells.toList l|none=>false)|none=>false
def P9 (t:TypeId) (f:TypeId->Bool):Bool:=match P.underlying t with|some (.slice e)=>f e|_=>false
def vZ (t:TypeId) (i off n:Nat):Bool:=match P.underlying t with
 | some (.struct fs)=>(match fs[i]? with|some f=>f.offset == off&&LA P f.type n&&n != 0|none=>false)
 | _=>false
def wA (t:TypeId) (i:Nat) (agg:Bool):Bool:=match P.underlying t with
 | some (.struct fs)=>(match fs[i]? with|some f=>V1 P f.type == some agg|none=>false)
 | _=>false
def U8 (place:Nat->Option (Nat × Nat)):List (Nat × Operand)->List (Nat × Nat × AU)->Bool
 | [],[]=>true
 | (i,x)::r,(off,n,y)::l=>place i == some (off,n)&&B6 x y&&U8 place r l
 | _,_=>false
def iG (t:TypeId) (ps:List (Nat × Operand)) (ch:List (Nat × Nat × AU)):Bool:=match P.underlying t with
 | some (.struct fs)=>(match fs.toList.mapM (λ f=>(P.info? f.type).map λ i=>(f.offset,i.size)) with|some places=>U8 (places.toArray[·]?) ps ch|none=>false)
 | some (.array _ e)=>(match P.info? e with|some ie=>U8 (λ i=>some (i*ie.size,ie.size)) ps ch|none=>false)
 | _=>false
def UM (k:Nat):List (Nat × Operand)->List AU->Bool
 | [],[]=>true
 | (i,x)::r,y::l=>i == k&&B6 x y&&UM (k+1) r l
 | _,_=>false
def BD (num:Nat->Nat) (op:Op):EH->Bool
 | .a6 y=>match op with | .move x=>B6 x y | .assign x=>B6 x y|_=>false
 | .y8 _ z=>z != 0&&(match op with | .move (.const (.slice none 0 0))=>true | .assign (.const (.slice none 0 0))=>true|_=>false)
 | .pick c' a' b'=>match op with | .pick c a b=>B6 c c'&&B6 a a'&&B6 b b'|_=>false
 | .bin zt x' y'=>match op with | .binOp op _ x y _=>op == zt&&B6 x x'&&B6 y y'|_=>false
 | .beq ne x' y'=>match op with | .binOp op t x y _=>(if ne then op == .neq else op == .eql)&&(match P.underlying t with|some .bool=>true|_=>false)&&B6 x x'&&B6 y y'|_=>false
 | .un zt x'=>match op with | .unOp op _ x=>op == zt&&B6 x x'|_=>false
 | .conv k x'=>match op with | .convert s d x=>(P.underlying s).isSome&&(match P.underlying d with|some (.int k')=>k == k'|_=>false)&&B6 x x'|_=>false
 | .box _ x'=>match op with | .box _ x=>B6 x x'|_=>false
 | .alloc _ z=>match op with | .alloc t=>VS P t z|_=>false
 | .build z ch=>match op with | .build t ps=>VS P t z&&iG P t ps.toList ch|_=>false
 | .b7 _ b8 ch=>match op with
  | .buildSlice t n ps=>P9 P t (λ e=>LA P e b8)&&b8 != 0&&n == ch.length&&decide (n*b8<=16777216)&&UM 0 ps.toList ch&&(n == 0||P9 P t (λ e=>match P.info? e with|some i=>(match i.zero with|some z=>z.cells.size == b8|none=>false)|none=>false))
  | _=>false
 | .a5 x' off=>match op with
  | .fieldAddr s x f=>B6 x x'&&(match P.underlying s with|some (.struct fs)=>(match fs[f]? with|some fd=>fd.offset == off&&(match P.info? fd.type with|some i=>i.size != 0|none=>false)|none=>false)|_=>false)
  | _=>false
 | .lq x' off n agg=>match op with | .field t x f=>B6 x x'&&vZ P t f off n&&wA P t f agg|_=>false
 | .a8 arr b8 x' i'=>match op with
  | .indexAddr t x i=>B6 x x'&&B6 i i'&&(match P.underlying t,arr with|some (.array len e),some oz=>len == oz&&LA P e b8&&decide (1<len)|some (.slice e),none=>LA P e b8&&b8 != 0|_,_=>false)
  | _=>false
 | .ld agg n x'=>match op with | .load t x=>B6 x x'&&V1 P t == some agg&&(if agg then LA P t n else n == 1)|_=>false
 | .st n x' v'=>match op with | .store t x v=>B6 x x'&&B6 v v'&&LA P t n|_=>false
 | .mk _ b8 bytes z l' c'=>match op with
  | .makeSlice t l c=>B6 l l'&&B6 c c'&&P9 P t (λ e=>LA P e b8&&bG P e bytes&&VS P e z)&&b8 != 0
  | _=>false
 | .cj b8 x' me o6=>match op with
  | .slice t x lo hi none=>B6 x x'&&Q4 lo me&&Q4 hi o6&&P9 P t (λ e=>LA P e b8)&&b8 != 0
  | _=>false
 | .ext x' i'=>match op with | .extract x i=>B6 x x'&&i == i'|_=>false
 | .len x'=>match op with
  | .call ⟨.builtin .len,xs,ts⟩=>(match xs.toList,ts.toList with|[x],[t]=>B6 x x'&&P9 P t (λ_=>true)|_,_=>false)
  | _=>false
 | .mm max n0=>match op with
  | .call ⟨.builtin .min,xs,_⟩ => !max&&EX xs.toList n0
  | .call ⟨.builtin .max,xs,_⟩=>max&&EX xs.toList n0
  | _=>false
 | .app _ b8 bytes x' y'=>match op with
  | .call ⟨.builtin .append,xs,ts⟩=>(match xs.toList,ts.toList with
   | [x,y],[t,u]=>B6 x x'&&B6 y y'&&P9 P t (λ e=>LA P e b8&&bG P e bytes&&(match P.info? e with|some i=>(match i.zero with|some z=>z.cells.size == b8|none=>false)|none=>false))&&b8 != 0&&P9 P u (λ_=>true)
   | _,_=>false)
  | _=>false
 | .call f' n0=>match op with
  | .call ⟨.value (.func f),xs,_⟩=>f == num f'&&EX xs.toList n0
  | _=>false
 | .g6 f' n0=>match op with
  | .call ⟨.value (.func f),xs,_⟩=>f == num f'&&EX xs.toList n0
  | _=>false
 | .aq _ f' n0=>match op with
  | .call ⟨.value (.func f),xs,_⟩=>f == num f'&&EX xs.toList n0
  | _=>false
 | .oy ne x'=>match op with
  | .binOp op t x (.const (.slice none 0 0)) _=>(if ne then op == .neq else op == .eql)&&P9 P t (λ_=>true)&&B6 x x'
  | _=>false
 | .bad=>true
 | .eo tb i'=>match op with
  | .index t (.const (.string s)) i=>(match P.underlying t with|some .string=>true|_=>false)&&s.data.toList.map (λ b=>b.toNat) == tb&&B6 i i'
  | _=>false
 | .mf _ f' n0=>match op with
  | .makeFunc (.func f) first xs=>f == num f'&&first.toList.isEmpty&&EX xs.toList n0
  | _=>false
 | .m5 f' n0=>match op with
  | .call ⟨.value (.func f),xs,_⟩=>f == num f'&&EX xs.toList n0
  | _=>false
 | .o5 _ f' n0=>match op with
  | .call ⟨.value (.func f),xs,_⟩=>f == num f'&&EX xs.toList n0
  | _=>false
 | .mi _ n x' v'=>match op with | .store t x v=>B6 x x'&&B6 v v'&&LA P t n|_=>false
 | .m8 x' n0=>match op with
  | .call ⟨.value x,xs,_⟩=>B6 x x'&&EX xs.toList n0
  | _=>false
def ZE (ops:Array Oper):Option (Nat × Bool)->Option (Nat × Bool)->Bool
 | none,none=>true
 | some (j,b),some (t,b')=>b == b'&&(match ops[j]? with|some o=>o.dst == some t|none=>false)
 | _,_=>false
def dM (num:Nat->Nat) (N:Nat) (ops:Array Oper) (o:Oper) (a:AI):Bool :=
 o.dst == a.dst&&(match a.dst with|some d=>decide (d<N)|none=>true)&&ZE ops o.guard a.guard&&BD P num o.op a.op
def SH (num:Nat->Nat) (N:Nat) (ops:Array Oper):List Oper->List AI->Bool
 | [],[]=>true
 | o::r,a::l=>dM P num N ops o a&&SH num N ops r l
 | _,_=>false
def H4:EH->Bool
 | .st .. | .app .. | .g6 .. | .m8 .. => true
 | _=>false
def ZP:EH->Bool
 | .ld .. | .call .. | .o5 .. => true
 | _=>false
def LO (a:EH):Bool:=H4 a||ZP a||(FJ a).isSome
def DG:AU->List Nat
 | .t n=>[n]
 | .c _=>[]
def mO:Option AU->List Nat
 | some x=>DG x
 | none=>[]
def JF:EH->List Nat
 | .a6 x=>DG x
 | .y8 _ _=>[]
 | .pick c a b=>DG c++DG a++DG b
 | .bin _ x y=>DG x++DG y
 | .beq _ x y=>DG x++DG y
 | .un _ x=>DG x
 | .conv _ x=>DG x
 | .box _ x=>DG x
 | .alloc _ _=>[]
 | .build _ ps=>ps.flatMap (λ p=>DG p.2.2)
 | .b7 _ _ ps=>ps.flatMap DG
 | .a5 x _=>DG x
 | .lq x _ _ _=>DG x
 | .a8 _ _ x i=>DG x++DG i
 | .ld _ _ x=>DG x
 | .st _ x v=>DG x++DG v
 | .mk _ _ _ _ l c=>DG l++DG c
 | .cj _ x lo hi=>DG x++mO lo++mO hi
 | .ext x _=>DG x
 | .len x=>DG x
 | .mm _ xs=>xs.flatMap DG
 | .app _ _ _ x y=>DG x++DG y
 | .call _ xs=>xs.flatMap DG
 | .g6 _ xs=>xs.flatMap DG
 | .oy _ x=>DG x
 | .eo _ x=>DG x
 | .mf _ _ xs=>xs.flatMap DG
 | .m8 x xs=>DG x++xs.flatMap DG
 | .m5 _ xs=>xs.flatMap DG
 | .mi _ _ x v=>DG x++DG v
 | .o5 _ _ xs=>xs.flatMap DG
 | .aq _ _ xs=>xs.flatMap DG
 | .bad=>[]
def WR (x:AI):List Nat:=JF x.op++(match x.guard with|some (g,_)=>[g]|none=>[])++x.dst.toList
def JS (b:Array Nat) (i j:Nat):Bool:=(b.getD (max i j) 0).testBit (min i j)
def Nx (b:Array Nat) (x:AI) (i:Nat) (y:AI) (j:Nat):Bool :=
 i == j||JS b i j ||
  ((match y.dst with|some t => !(WR x).contains t|none=>true) &&
   (!H4 x.op || !LO y.op) &&
   (!ZP x.op||(match FJ y.op with|some s=>x.c4.contains s|none=>true)) )
def UJ (ops:Array Oper) (l:List AI):Bool :=
 let b:=Region.before ops
 (l.zipIdx.all λ(x,i)=>l.zipIdx.all λ(y,j)=>Nx b x i y j&&(i == j||JS b i j||(match FJ x.op,FJ y.op with|some s,some s'=>s != s'|_,_=>true))) &&
 (ops.toList.zipIdx.all λ(o,i)=>o.after.all λ e=>decide (e.on<i)||(match e.ground with | .gcOnly _=>true|_=>false)) &&
 (!Region.departs ops||(List.range ops.size).all (λ i=>(Region.linearise .gc ops 0).contains i))
def FN (num:Nat->Nat) (N:Nat):Code->BG->Bool
 | c,.dr a _ _=>FN num N c a
 | c',.skip=>match c' with | .skip=>true | .label _=>true|_=>false
 | c',.scope a=>match c' with | .scope c=>FN num N c a|_=>false
 | c',.ops l ni=>match c' with | .region _ ops draw=>draw == ni&&SH P num N ops ops.toList l&&(!draw||UJ ops l)|_=>false
 | c',.seq a' b'=>match c' with | .seq a b=>FN num N a a'&&FN num N b b'|_=>false
 | c',.cond x' a' b'=>match c' with | .cond x a b=>B6 x x'&&FN num N a a'&&FN num N b b'|_=>false
 | c',.block i' a=>match c' with | .block i c=>i == i'&&FN num N c a|_=>false
 | c',.loop a=>match c' with | .loop c=>FN num N c a|_=>false
 | c',.exit i'=>match c' with | .exit i=>i == i'|_=>false
 | c',.ret=>match c' with | .ret=>true|_=>false
def NQ:List ResultVar->List KP->Bool
 | [],[]=>true
 | .tmp t::r,.tmp t'::l=>t == t'&&NQ r l
 | .cell a t::r,.cell a' agg n::l=>a == a'&&V1 P t == some agg&&(if agg then LA P t n else n == 1)&&NQ r l
 | _,_=>false
def okFn (num:Nat->Nat) (fn:Func) (a:AFn):Bool :=
 fn.params.size+fn.nfree == a.ae&&decide (a.ae<=fn.ntmps)&&NQ P fn.results.toList a.res&&(match fn.body with|some c=>FN P num fn.ntmps c a.body|none=>false)
end
end Go.c6
namespace Go.c6
@[irreducible] def E9 (a b : Nat) : Nat := (a + 18446744073709551616 - b) % 18446744073709551616
theorem VQ (a b:Nat):E9 a b=(a+18446744073709551616-b)%18446744073709551616:=by unfold E9;rfl
def val:List Nat->Nat
 | []=>0
 | d::l=>d+4294967296*val l
def A1 (l:List Nat):Prop := ∀ d∈l,d<4294967296
def dg (n:Nat):List Nat:=if h:n=0 then [] else n%4294967296::dg (n/4294967296)
termination_by n
decreasing_by omega
theorem FZ:dg 0=[]:=by rw[dg];simp
theorem KE {n:Nat} (h:n≠0):dg n=n%4294967296::dg (n/4294967296):=by rw[dg];simp [h]
theorem J5:val []=0:=rfl
theorem ST (d:Nat) (l:List Nat):val (d::l)=d+4294967296*val l:=rfl
theorem BQ (n:Nat):val (dg n)=n:=by
 induction n using Nat.strongRecOn with
 | ind n ih =>
  by_cases h:n=0
  ·subst h;rw[FZ];rfl
  ·rw[KE h,ST,ih _ (by omega)]
   omega
theorem EF (n:Nat):A1 (dg n):=by
 induction n using Nat.strongRecOn with
 | ind n ih =>
  by_cases h:n=0
  ·subst h;rw[FZ];intro d hd;cases hd
  ·rw[KE h]
   intro d hd;rcases List.mem_cons.1 hd with rfl|hd
   ·omega
   ·exact ih _ (by omega) d hd
theorem A1.tail {d:Nat} {l:List Nat} (h:A1 (d::l)):A1 l:=λ x hx=>h x (List.mem_cons_of_mem _ hx)
theorem A1.head {d:Nat} {l:List Nat} (h:A1 (d::l)):d<4294967296:=h d List.mem_cons_self
theorem A1.at {l:List Nat} (h:A1 l) {i d:Nat} (hd:l[i]? = some d):d<4294967296:=h d (zM hd)
theorem A1.take {l:List Nat} (h:A1 l) (n:Nat):A1 (l.take n):=λ x hx=>h x (List.mem_of_mem_take hx)
theorem A1.drop {l:List Nat} (h:A1 l) (n:Nat):A1 (l.drop n):=λ x hx=>h x (List.mem_of_mem_drop hx)
theorem WA:A1 []:=λ_ h=>by cases h
theorem A1.append {a b:List Nat} (h:A1 a) (h':A1 b):A1 (a++b):=λ x hx=>(List.mem_append.1 hx).elim (h x) (h' x)
theorem IO {d:Nat} (h:d<4294967296):A1 [d]:=λ x hx=>by simp at hx;omega
theorem A1.set {l:List Nat} (h:A1 l) (i:Nat) {d:Nat} (hd:d<4294967296):A1 (l.set i d):=λ x hx=>by
 rcases List.mem_or_eq_of_mem_set hx with h1|h1
 ·exact h x h1
 ·omega
theorem KF (n:Nat):A1 (List.replicate n 0):=λ x hx=>by rw[(List.mem_replicate.1 hx).2];omega
theorem XG (a b:List Nat):val (a++b)=val a+4294967296^a.length*val b:=by
 induction a with
 | nil=>simp [val]
 | cons d l ih=>rw[List.cons_append,ST,ST,ih,List.length_cons,Nat.pow_succ];grind
theorem QE (l:List Nat) (v:Nat):val (l++[v])=val l+4294967296^l.length*v:=by
 rw[XG];simp [val]
theorem F2 {l:List Nat} (h:A1 l):val l<4294967296^l.length:=by
 induction l with
 | nil=>simp [val]
 | cons d l ih =>
  have h1:=ih h.tail;have h2:=h.head;rw[ST,List.length_cons,Nat.pow_succ];omega
theorem ER {l:List Nat} {i v:Nat} (h:l[i]? = some v):val (l.take (i+1))=val (l.take i)+4294967296^i*v:=by
 have hi:=(zS h).1;rw[List.take_add_one,h,Option.toList_some,QE,List.length_take,Nat.min_eq_left (by omega)]
theorem LE (l:List Nat) (i:Nat) (h:i<=l.length):val l=val (l.take i)+4294967296^i*val (l.drop i):=by
 have:=XG (l.take i) (l.drop i)
 rw[List.take_append_drop,List.length_take,Nat.min_eq_left h]at this;exact this
theorem gA (n:Nat):val (List.replicate n 0)=0:=by
 induction n with
 | zero=>rfl
 | succ n ih=>rw[List.replicate_succ,ST,ih]
theorem Ae1 {l:List Nat} (h:A1 l) (ht:l=[] \/ ∃ d,l[l.length-1]? = some d/\d≠0):dg (val l)=l:=by
 induction l with
 | nil=>exact FZ
 | cons d l ih =>
  have h1:=h.head;by_cases hl:l=[]
  ·subst hl
   rcases ht with ht|⟨x,hx,na⟩
   ·cases ht
   ·simp at hx
    subst hx;rw[ST,J5,KE (by omega),show (d+4294967296*0)/4294967296=0 by omega,FZ,show (d+4294967296*0)%4294967296=d by omega]
  ·have ju : ∃ x,l[l.length-1]? = some x/\x≠0:=by
    rcases ht with ht|⟨x,hx,na⟩
    ·cases ht
    ·refine ⟨x,?_,na⟩
     have:l.length≠0:=λ e=>hl (List.eq_nil_of_length_eq_zero e)
     rw[List.length_cons,show l.length+1-1=(l.length-1)+1 by omega,List.getElem?_cons_succ]at hx;exact hx
   have Et:=ih h.tail (Or.inr ju);have Ko:val l≠0:=by
    intro e;rw[e,FZ]at Et;exact hl Et.symm
   rw[ST,KE (by omega),show (d+4294967296*val l)/4294967296=val l by omega,Et,show (d+4294967296*val l)%4294967296=d by omega]
theorem HK {l:List Nat} (h:A1 l) {n:Nat} (hn:n<=l.length) (hz : ∀ i,n<=i->i<l.length->l[i]? = some 0) (ht:n=0 \/ ∃ d,l[n-1]? = some d/\d≠0):l.take n=dg (val l):=by
 have hv:val l=val (l.take n):=by
  have h0:l.drop n=List.replicate (l.length-n) 0:=by
   apply List.ext_getElem?;intro i;rw[List.getElem?_drop,List.getElem?_replicate];by_cases hi:n+i<l.length
   ·rw[hz (n+i) (by omega) hi,if_pos (by omega)]
   ·rw[List.getElem?_eq_none (by omega),if_neg (by omega)]
  rw[LE l n hn,h0,gA];omega
 rw[hv];refine (Ae1 (h.take n) ?_).symm;rcases ht with rfl|⟨d,hd,nr⟩
 ·exact Or.inl (by simp)
 ·have j9:=(zS hd).1
  by_cases nz:n=0
  ·subst nz;exact Or.inl (by simp)
  ·refine Or.inr ⟨d,?_,nr⟩
   rw[List.length_take,Nat.min_eq_left hn,List.getElem?_take,if_pos (by omega)];exact hd
theorem Q1 {n k:Nat}:(dg n).length<=k↔n<4294967296^k:=by
 induction k generalizing n with
 | zero =>
  by_cases h:n=0
  ·subst h;simp [FZ]
  ·rw[KE h];simp;omega
 | succ k ih =>
  by_cases h:n=0
  ·subst h;simp [FZ];exact Nat.pos_of_ne_zero (by simp)
  ·rw[KE h,List.length_cons,Nat.succ_le_succ_iff,ih,Nat.pow_succ]
   rw[Nat.div_lt_iff_lt_mul (by omega)]
theorem FM {l:List Nat} (h:A1 l):(dg (val l)).length<=l.length:=Q1.2 (F2 h)
theorem jA {n:Nat} (h:n≠0) : ∃ d,(dg n)[(dg n).length-1]? = some d/\d≠0:=by
 induction n using Nat.strongRecOn with
 | ind n ih =>
  rw[KE h];by_cases h2:n/4294967296=0
  ·rw[h2,FZ]
   exact ⟨n%4294967296,by simp,by omega⟩
  ·obtain ⟨d,hd,nr⟩:=ih _ (by omega) h2
   refine ⟨d,?_,nr⟩;have hl:(dg (n/4294967296)).length≠0:=λ e=>by rw[List.eq_nil_of_length_eq_zero e]at hd;simp at hd
   rw[List.length_cons,show (dg (n/4294967296)).length+1-1=(dg (n/4294967296)).length-1+1 by omega,List.getElem?_cons_succ];exact hd
theorem iY {n:Nat}:dg n=[]↔n=0:=by
 constructor
 ·intro h
  by_cases h0:n=0
  ·exact h0
  ·rw[KE h0]at h;cases h
 ·rintro rfl;exact FZ
theorem YF {n:Nat} (h:n≠0):1<=(dg n).length:=by rw[KE h];simp
theorem Akx {o:List Nat} {i v:Nat} (h:i<o.length):(o.set i v).take (i+1)=o.take i++[v]:=by
 rw[List.take_add_one,List.getElem?_set_self h,List.take_set_of_le (Nat.le_refl i)];rfl
theorem G8 {o:List Nat} {i v:Nat} (h:i<o.length):val ((o.set i v).take (i+1))=val (o.take i)+4294967296^i*v:=by
 rw[Akx h,QE,List.length_take,Nat.min_eq_left (by omega)]
theorem R1 (V p t:Nat):V+p*(t%4294967296)+p*4294967296*(t/4294967296)=V+p*t:=by
 have h:=Nat.mod_add_div t 4294967296;have:p*(t%4294967296)+p*4294967296*(t/4294967296)=p*t:=by
  rw[Nat.mul_assoc,<-Nat.mul_add,h]
 omega
theorem DH {l:List Nat} {n:Nat} (h:l.length<=n):val (l.take n)=val l:=by rw[zT h]
theorem Oc (i:Nat):1<=4294967296^i:=Nat.pos_of_ne_zero (by simp)
theorem II {l:List Nat} {i d:Nat} (h:l[i]? = some d):val (l.drop i)=d+4294967296*val (l.drop (i+1)):=by
 obtain ⟨hi,rfl⟩:=zS h;rw[List.drop_eq_getElem_cons hi,ST]
theorem fW {a b:List Nat} (ha:A1 a) (hb:A1 b) (hl:a.length=b.length) {i:Nat} {x y:Nat} (hx:a[i]? = some x) (hy:b[i]? = some y) (he:a.drop (i+1)=b.drop (i+1)) (h:x<y):val a<val b:=by
 have hia:=(zS hx).1;have hib:=(zS hy).1;rw[LE a i (by omega),LE b i (by omega),II hx,II hy,he];have h1:=F2 (ha.take i);rw[List.length_take,Nat.min_eq_left (by omega)]at h1;generalize val (b.drop (i+1))=r;generalize 4294967296^i=p at *;have:p*(x+4294967296*r)+p<=p*(y+4294967296*r):=by
  rw[<-Nat.mul_succ];exact Nat.mul_le_mul_left p (by omega)
 omega
theorem fX {o:List Nat} {k v old:Nat} (h:o[k]? = some old):val (o.set k v)+4294967296^k*old=val o+4294967296^k*v:=by
 have hk:=(zS h).1;have h1:val (o.set k v)=val (o.take k)+4294967296^k*(v+4294967296*val (o.drop (k+1))):=by
  rw[LE (o.set k v) k (by simp;omega),List.take_set_of_le (Nat.le_refl k),II (l:=o.set k v) (d:=v) (by rw[List.getElem?_set_self hk]),List.drop_set_of_lt (by omega)]
 have h2:val o=val (o.take k)+4294967296^k*(old+4294967296*val (o.drop (k+1))):=by
  rw[LE o k (by omega),II h]
 rw[h1,h2,Nat.mul_add,Nat.mul_add];omega
theorem Z5 {l:List Nat} (h:A1 l):l.take (dg (val l)).length=dg (val l):=by
 induction l with
 | nil=>rw[J5,FZ];rfl
 | cons d l ih =>
  have h1:=h.head;by_cases h0:val (d::l)=0
  ·rw[h0,FZ];rfl
  ·rw[KE h0,ST,show (d+4294967296*val l)/4294967296=val l by omega,show (d+4294967296*val l)%4294967296=d by omega,List.length_cons,List.take_succ_cons,ih h.tail]
theorem XH {a b:Nat} (h:(dg a).length<(dg b).length):a<b:=by
 have h1:a<4294967296^(dg a).length:=Q1.1 (Nat.le_refl _);have h2 : ¬ b<4294967296^((dg b).length-1):=λ h3=>by have:=Q1.2 h3;omega
 have h3:4294967296^(dg a).length<=4294967296^((dg b).length-1):=Nat.pow_le_pow_right (by omega) (by omega);omega
end Go.c6

namespace Go.c6
section
variable {U V UL VL p u0 u1 u2 v1 v2 top q r:Nat}
theorem AhR (hU:U=UL+p*(u2+4294967296*top)) (hV:V=VL+p*(v2+4294967296*v1)) (hl:UL<p) (h2:u2<4294967296) (z0:0<V):U/V*v1<=top:=by
 have h1:U/V*V<=U:=Nat.div_mul_le_self U V;generalize U/V=Q at *;have h3:U<p*(4294967296*(top+1)):=by
  have:p*(u2+4294967296*top)+p<=p*(4294967296*(top+1)):=by
   rw[<-Nat.mul_succ];exact Nat.mul_le_mul_left p (by omega)
  omega
 have h4:p*(4294967296*(Q*v1))<=Q*V:=by
  have e:Q*V=Q*VL+Q*(p*v2)+p*(4294967296*(Q*v1)):=by rw[hV];grind
  omega
 have h5:p*(4294967296*(Q*v1))<p*(4294967296*(top+1)):=by omega
 have:=Nat.lt_of_mul_lt_mul_left h5
 omega
theorem AhQ (hU:U=UL+p*(u2+4294967296*top)) (hV:V=VL+p*(v2+4294967296*v1)) (hl:UL<p) (hq:q*v1+r=top) (h:r*4294967296+u2<q*v2) (z0:0<V):U/V<q:=by
 rw[Nat.div_lt_iff_lt_mul z0];have e:q*V=q*VL+p*(q*v2+4294967296*(q*v1)):=by rw[hV];grind
 have h1:p*(u2+4294967296*top)+p<=p*(q*v2+4294967296*(q*v1)):=by
  rw[<-Nat.mul_succ];exact Nat.mul_le_mul_left p (by omega)
 omega
theorem AhP (h:U<4294967296*V) (hq:4294967296<=q) (z0:0<V):U/V<q:=by
 have:U/V<4294967296:=(Nat.div_lt_iff_lt_mul z0).2 h
 omega
theorem wY (hU:U=UL+p*(u2+4294967296*top)) (hV:V=VL+p*(v2+4294967296*v1)) (yc:VL<p) (h1:2147483648<=v1) (hq:q*v1+r=top) (h:q*v2<=r*4294967296+u2) (hqB:q<4294967296):q<=U/V+1:=by
 have z0:0<V:=by
  have:p*4294967296<=p*(v2+4294967296*v1):=Nat.mul_le_mul_left p (by omega)
  omega
 by_cases h0:q=0
 ·subst h0;exact Nat.zero_le _
 have e:q*V=q*VL+p*(q*v2+4294967296*(q*v1)):=by rw[hV];grind
 have h2:p*(q*v2+4294967296*(q*v1))<=p*(u2+4294967296*top):=Nat.mul_le_mul_left p (by omega);have h3:q*VL<V:=by
  have a1:q*VL<=4294967296*VL:=zR _ (by omega);have a2:p*4294967296<=p*(v2+4294967296*v1):=Nat.mul_le_mul_left p (by omega);omega
 have h4:(q-1)*V<U+1:=by
  have:(q-1)*V+V=q*V:=by
   have:q=q-1+1:=by omega
   rw[<-Nat.succ_mul,Nat.succ_eq_add_one,<-this]
  omega
 have h5:q-1<=U/V:=(Nat.le_div_iff_mul_le z0).2 (by omega);omega
end
theorem sD {U V U' q:Nat} (z0:0<V) (h1:U/V<=q) (h:U'+q*V=U):q=U/V/\U'=U%V:=by
 have h2:q*V<=U:=by omega
 have h3:q<=U/V:=(Nat.le_div_iff_mul_le z0).2 h2;have h4:q=U/V:=by omega
 have:=Nat.div_add_mod U V
 rw[Nat.mul_comm,<-h4]at this;exact ⟨h4,by omega⟩
theorem sC {U V U' q P:Nat} (z0:0<V) (h2:q<=U/V+1) (Ae:U'<P) (h:U'+q*V=U+P):q-1=U/V/\1<=q/\U'+V=U%V+P:=by
 have h3:U/V*V<=U:=Nat.div_mul_le_self U V;have h4:U/V<q:=by
  rcases Nat.lt_or_ge (U/V) q with h|h
  ·exact h
  ·have:q*V<=U/V*V:=zR _ h
   omega
 have h6:=Nat.div_add_mod U V;rw[Nat.mul_comm]at h6;generalize U/V=Q at *;generalize U%V=R at *;obtain rfl:q=Q+1:=by omega
 rw[Nat.add_mul,Nat.one_mul]at h;exact ⟨by omega,by omega,by omega⟩
theorem fQ {u pl bw:Nat} (hu:u<4294967296) (hp:pl<4294967296) (hb:bw<=1):E9 (E9 u pl) bw%4294967296+pl+bw=u+4294967296*(E9 (E9 u pl) bw/9223372036854775808)/\E9 (E9 u pl) bw/9223372036854775808<=1:=by
 rw[VQ,VQ];omega
theorem Ak5 {d e bw:Nat} (hu:d<4294967296) (hp:e<4294967296) (hb:bw<=1):E9 (E9 d bw) e%4294967296+e+bw=d+4294967296*(E9 (E9 d bw) e/9223372036854775808)/\E9 (E9 d bw) e/9223372036854775808<=1:=by
 rw[VQ,VQ];omega
theorem Ak4 {d bw:Nat} (hu:d<4294967296) (hb:bw<=1):E9 d bw%4294967296+bw=d+4294967296*(E9 d bw/9223372036854775808)/\E9 d bw/9223372036854775808<=1:=by
 rw[VQ];omega
theorem Qt {V Y X p D e bw au d:Nat} (h:V+Y=X+p*bw) (hd:D+e+bw=d+4294967296*au):V+p*D+(Y+p*e)=X+p*d+p*4294967296*au:=by
 have h2:p*D+p*e+p*bw=p*d+p*4294967296*au:=by
  rw[<-Nat.mul_add,<-Nat.mul_add,hd,Nat.mul_add,Nat.mul_assoc]
 omega
theorem WX {a b:Nat} (ha:a<4294967296) (hb:b<4294967296):a*b<=18446744065119617025 :=
 Nat.mul_le_mul (show a<=4294967295 by omega) (show b<=4294967295 by omega)
theorem sF {X Y s:Nat} (hs:0<s):X*s/(Y*s)=X/Y/\X*s%(Y*s)/s=X%Y:=by
 refine ⟨Nat.mul_div_mul_right X Y hs,?_⟩;rw[Nat.mul_mod_mul_right,Nat.mul_div_cancel _ hs]
end Go.c6

namespace Go.c6
@[irreducible] def SP (d s : Nat) : Nat := d * 2 ^ s % 4294967296
@[irreducible] def VE (d s : Nat) : Nat := d * 2 ^ s / 4294967296
theorem nI (d s:Nat):SP d s=d*2^s%4294967296:=by unfold SP;rfl
theorem VF (d s:Nat):VE d s=d*2^s/4294967296:=by unfold VE;rfl
theorem TU {s:Nat} (hs:s<=32):4294967296=2^s*2^(32-s):=by
 rw[<-Nat.pow_add,show s+(32-s)=32 by omega]
theorem AkA (d s:Nat):SP d s+4294967296*VE d s=d*2^s:=by
 rw[nI,VF];exact Nat.mod_add_div _ _
theorem Nb {d s:Nat} (hs:s<=32):SP d s=2^s*(d%2^(32-s)):=by
 rw[nI,TU hs,Nat.mul_comm d,Nat.mul_mod_mul_left]
theorem Na {d s:Nat} (hs:s<=32):VE d s=d/2^(32-s):=by
 rw[VF,TU hs,Nat.mul_comm d,Nat.mul_div_mul_left _ _ (Nat.two_pow_pos s)]
theorem VG {d s:Nat} (hd:d<4294967296) (hs:s<=32):SP d s%2^s=0/\VE d s<2^s/\SP d s+2^s<=4294967296/\d*2^s<=18446744073709551615:=by
 refine ⟨by rw[Nb hs,Nat.mul_mod_right],?_,?_,?_⟩
 ·rw[Na hs,Nat.div_lt_iff_lt_mul (Nat.two_pow_pos _),<-Nat.pow_add,show s+(32-s)=32 by omega];exact hd
 ·rw[Nb hs]
  have h1:d%2^(32-s)+1<=2^(32-s):=Nat.mod_lt _ (Nat.two_pow_pos _);have h2:=Nat.mul_le_mul_left (2^s) h1;rw[Nat.mul_add,Nat.mul_one,<-TU hs]at h2;exact h2
 ·have h1:2^s<=2^32:=Nat.pow_le_pow_right (by omega) hs
  have h2:d*2^s<=4294967295*4294967296:=Nat.mul_le_mul (by omega) h1;omega
theorem ZJ {s:Nat} (hs:s<=32):2^s<=4294967296:=(Nat.pow_le_pow_right (by omega) hs:2^s<=2^32)
theorem yK {V X p lo s d:Nat} (h:V+p*lo=X*2^s):V+p*(SP d s+lo)+p*4294967296*VE d s=(X+p*d)*2^s:=by
 have h1:=AkA d s;have h2:p*(SP d s+lo)+p*4294967296*VE d s=p*lo+p*(d*2^s):=by
  rw[<-h1];grind
 rw[Nat.add_mul,<-h,Nat.mul_assoc p d];omega
theorem lR {d V s:Nat} (hs:s<=32):(d+4294967296*V)/2^s=d/2^s+V%2^s*2^(32-s)+4294967296*(V/2^s):=by
 have e:4294967296*V=2^s*(2^(32-s)*V):=by rw[<-Nat.mul_assoc,<-TU hs]
 rw[e,Nat.add_mul_div_left _ _ (Nat.two_pow_pos s)];have h:=Nat.mod_add_div V (2^s);have h2:2^(32-s)*V=V%2^s*2^(32-s)+4294967296*(V/2^s):=by
  have h3:2^(32-s)*V=2^(32-s)*(V%2^s+2^s*(V/2^s)):=by rw[h]
  rw[h3,TU hs];grind
 omega
theorem yR {d V s:Nat} (hs:s<=32):(d+4294967296*V)%2^s=d%2^s:=by
 have e:4294967296*V=2^s*(2^(32-s)*V):=by rw[<-Nat.mul_assoc,<-TU hs]
 rw[e,Nat.add_mul_mod_self_left]
theorem AiT {d s:Nat} (hs:s<=32):d*2^(32-s)%4294967296=d%2^s*2^(32-s):=by
 have e:4294967296=2^s*2^(32-s):=TU hs;rw[e,Nat.mul_mod_mul_right]
theorem yQ {d V s:Nat} (hd:d<4294967296) (hs:s<=32):d/2^s<2^(32-s)/\V%2^s*2^(32-s)%2^(32-s)=0/\V%2^s*2^(32-s)+2^(32-s)<=4294967296:=by
 refine ⟨?_,Nat.mul_mod_left _ _,?_⟩
 ·rw[Nat.div_lt_iff_lt_mul (Nat.two_pow_pos _),<-Nat.pow_add,show 32-s+s=32 by omega];exact hd
 ·have h1:V%2^s+1<=2^s:=Nat.mod_lt _ (Nat.two_pow_pos _)
  have h2:=zR (2^(32-s)) h1;rw[Nat.add_mul,Nat.one_mul,<-TU hs]at h2;exact h2
def n9 (x:Nat):Nat:=if x=0 then 0 else x.log2+1
theorem qK {x:Nat} (h:x≠0):2^(n9 x-1)<=x/\x<2^n9 x/\1<=n9 x:=by
 unfold n9;rw[if_neg h];exact ⟨Nat.log2_self_le h,Nat.lt_log2_self,by omega⟩
theorem bC {x k:Nat} (h:x<2^k):n9 x<=k:=by
 by_cases h0:x=0
 ·subst h0;unfold n9;simp
 ·obtain ⟨h1,_,h3⟩:=qK h0
  have h2:2^(n9 x-1)<2^k:=by omega
  have:=(Nat.pow_lt_pow_iff_right (by omega)).1 h2
  omega
theorem X2 {x:Nat} (n:Nat) (h:2^n<=x):n9 (x/2^n)+n=n9 x:=by
 have hp:=Nat.two_pow_pos n;have hx:x≠0:=by omega
 have hq:x/2^n≠0:=by have:=Nat.div_pos h hp;omega
 unfold n9;rw[if_neg hx,if_neg hq];have:(x/2^n).log2+n=x.log2:=by
  symm
  rw[Nat.log2_eq_iff hx];have h1:=Nat.log2_self_le hq;have h2:x/2^n<2^((x/2^n).log2+1):=Nat.lt_log2_self;rw[Nat.le_div_iff_mul_le hp,<-Nat.pow_add]at h1;rw[Nat.div_lt_iff_lt_mul hp,<-Nat.pow_add]at h2;exact ⟨h1,by rw[show (x/2^n).log2+n+1=(x/2^n).log2+1+n by omega];exact h2⟩
 omega
theorem lS {x:Nat} (h0:x≠0) (hx:x<4294967296):n9 x<=32/\1<=n9 x/\2147483648<=x*2^(32-n9 x)/\x*2^(32-n9 x)<4294967296:=by
 obtain ⟨h1,h2,h3⟩:=qK h0;have hk:n9 x<=32:=bC (k:=32) hx;refine ⟨hk,h3,?_,?_⟩
 ·have:=zR (2^(32-n9 x)) h1
  rw[<-Nat.pow_add,show n9 x-1+(32-n9 x)=31 by omega]at this;exact this
 ·have:=Nat.mul_lt_mul_of_pos_right h2 (Nat.two_pow_pos (32-n9 x))
  rw[<-Nat.pow_add,show n9 x+(32-n9 x)=32 by omega]at this;exact this
def gI (a b c d:Int):Prop:=(0<=a/\b<=0/\c<=0/\0<=d)\/(a<=0/\0<=b/\0<=c/\d<=0)
structure T7 (P Q a b c d p q:Int):Prop where
 hp:p=a*P+b*Q
 hq:q=c*P+d*Q
 sg:gI a b c d
 pa:0<=p+a
 pb:0<=p+b
 qc:0<=q+c
 qd:0<=q+d
theorem T7.start {P Q:Int} (hP:0<=P) (hQ:0<=Q):T7 P Q 1 0 0 1 P Q :=
 ⟨by omega,by omega,Or.inl (by omega),by omega,by omega,by omega,by omega⟩
def XU (P Q a b c d:Int):Prop := ∀ x y K e1 e2:Int,0<K->x=K*P+e1->y=K*Q+e2->0<=e1->e1<=K->0<=e2->e2<=K ->
 0<=c*x+d*y/\c*x+d*y<a*x+b*y/\a*x+b*y<=y/\Int.gcd (a*x+b*y) (c*x+d*y)=Int.gcd x y
def VY (P Q a b c d:Int):Prop := ∀ x y K e1 e2:Int,0<K->x=K*P+e1->y=K*Q+e2->0<=e1->e1<=K->0<=e2->e2<=K ->
 c*x+d*y<=y/\Int.gcd (a*x+b*y) (c*x+d*y)=Int.gcd x y
theorem VY.start (P Q:Int):VY P Q 1 0 0 1:=by
 intro x y K e1 e2 _ _ _ _ _ _ _;simp
theorem XU.half {P Q a b c d:Int} (h:XU P Q a b c d):VY P Q a b c d:=λ x y K e1 e2 h1 h2 h3 h4 h5 h6 h7=>by
 obtain ⟨g1,g2,g3,g4⟩:=h x y K e1 e2 h1 h2 h3 h4 h5 h6 h7;exact ⟨by omega,g4⟩
theorem AhB (X Y f:Int):Int.gcd Y (X-f*Y)=Int.gcd X Y:=by
 rw[Int.gcd_comm X Y];exact Int.gcd_sub_mul_right_right Y X f
theorem T7.step {P Q a b c d p q f:Int} (h:T7 P Q a b c d p q) (hc:q+c≠0) (hd:q+d≠0) (h1:f=(p+a)/(q+c)) (h2:f=(p+b)/(q+d)) :
  T7 P Q c d (a-f*c) (b-f*d) q (p-f*q)/\0<=f/\p-f*q<q/\(VY P Q a b c d->XU P Q c d (a-f*c) (b-f*d)):=by
 have c0:0<q+c:=by have:=h.qc;omega
 have d0:0<q+d:=by have:=h.qd;omega
 have f0:0<=f:=by rw[h1];exact Int.ediv_nonneg h.pa h.qc
 have m1:p-f*q+(a-f*c)=(p+a)%(q+c):=by
  have:=Int.emod_add_mul_ediv (p+a) (q+c)
  rw[<-h1]at this;grind
 have m2:p-f*q+(b-f*d)=(p+b)%(q+d):=by
  have:=Int.emod_add_mul_ediv (p+b) (q+d)
  rw[<-h2]at this;grind
 have n1:0<=p-f*q+(a-f*c):=by rw[m1];exact Int.emod_nonneg _ hc
 have n2:0<=p-f*q+(b-f*d):=by rw[m2];exact Int.emod_nonneg _ hd
 have n3:p-f*q+(a-f*c)<q+c:=by rw[m1];exact Int.emod_lt_of_pos _ c0
 have n4:p-f*q+(b-f*d)<q+d:=by rw[m2];exact Int.emod_lt_of_pos _ d0
 have Au:p-f*q=(a-f*c)*P+(b-f*d)*Q:=by rw[h.hp,h.hq];grind
 have ou:gI c d (a-f*c) (b-f*d):=by
  rcases h.sg with ⟨s1,s2,s3,s4⟩|⟨s1,s2,s3,s4⟩
  ·have t1:f*c<=0:=Int.mul_nonpos_of_nonneg_of_nonpos f0 s3
   have t2:0<=f*d:=Int.mul_nonneg f0 s4;exact Or.inr (by omega)
  ·have t1:0<=f*c:=Int.mul_nonneg f0 s3
   have t2:f*d<=0:=Int.mul_nonpos_of_nonneg_of_nonpos f0 s4;exact Or.inl (by omega)
 have j9:p-f*q<q:=by
  rcases ou with ⟨s1,s2,s3,s4⟩|⟨s1,s2,s3,s4⟩
  ·omega
  ·omega
 refine ⟨⟨h.hq,Au,ou,h.qc,h.qd,n1,n2⟩,f0,j9,λ hh => ?_⟩;intro x y K e1 e2 hK hx hy a1 a2 b1 b2;obtain ⟨k1,k2⟩:=hh x y K e1 e2 hK hx hy a1 a2 b1 b2;have eY:c*x+d*y=K*q+c*e1+d*e2:=by rw[hx,hy,h.hq];grind
 have eX:(a-f*c)*x+(b-f*d)*y=K*(p-f*q)+(a-f*c)*e1+(b-f*d)*e2:=by rw[hx,hy,Au];grind
 have eS:(a-f*c)*x+(b-f*d)*y=(a*x+b*y)-f*(c*x+d*y):=by grind
 generalize hE:a-f*c=E at *;generalize hG:b-f*d=G at *;generalize Av:p-f*q=q2 at *;have key:0<=E*x+G*y/\E*x+G*y<c*x+d*y:=by
  rw[eX,eY];rcases ou with ⟨s1,s2,s3,s4⟩|⟨s1,s2,s3,s4⟩
  ·-- c≥0,d<=0,E<=0,G≥0
   have t1:E*K<=E*e1:=Int.mul_le_mul_of_nonpos_left s3 a2;have t2:0<=G*e2:=Int.mul_nonneg s4 b1;have t3:0<=K*(q2+E):=Int.mul_nonneg (by omega) n1;have t4:(G-d)*e2<=(G-d)*K:=Int.mul_le_mul_of_nonneg_left b2 (by omega);have t5:(E-c)*e1<=0:=Int.mul_nonpos_of_nonpos_of_nonneg (by omega) a1;have t6:0<K*((q+d)-(q2+G)):=Int.mul_pos hK (by omega);constructor
   ·grind
   ·grind
  ·have t1:G*K<=G*e2:=Int.mul_le_mul_of_nonpos_left s4 b2
   have t2:0<=E*e1:=Int.mul_nonneg s3 a1;have t3:0<=K*(q2+G):=Int.mul_nonneg (by omega) n2;have t4:(E-c)*e1<=(E-c)*K:=Int.mul_le_mul_of_nonneg_left a2 (by omega);have t5:(G-d)*e2<=0:=Int.mul_nonpos_of_nonpos_of_nonneg (by omega) b1;have t6:0<K*((q+c)-(q2+E)):=Int.mul_pos hK (by omega);constructor
   ·grind
   ·grind
 refine ⟨key.1,key.2,k1,?_⟩;rw[<-k2,eS];exact AhB _ _ _
end Go.c6

































namespace Go.c6
open Go.RowKit
theorem IK (b o n:Nat):(⟨b,o,none⟩:Addr).add n=⟨b,o+n,none⟩:=by
 unfold Addr.add;split<;>simp_all
inductive Rd (w:World) (R:Bool->Nat->Prop):AV->Value->Prop
 | int (k:IntKind) (n:Int):Rd w R (.int k n) (.int k n)
 | bool (b:Bool):Rd w R (.bool b) (.bool b)
 | str (s:ByteArray):Rd w R (.aj (.string s)) (.string s)
 | jk:Rd w R (.aj .nilFunc) .nilFunc
 | gu (l:Bool) (a:Option Addr) (cap:Nat):Rd w R (.sl l []) (.slice a 0 cap)
 | emp (b:Bool) (a:Option Addr) (cap:Nat) (h:a.isNone=b):Rd w R (.aj (.bool b)) (.slice a 0 cap)
 | sl (l:Bool) (es:List (List AV)) (b o b8 cap:Nat) (u:Nat->Nat->Value) (l9:es≠[]) (hp:0<b8) (hR:R l b) (ag:es.length<=cap) (hz : ∀ e∈es,e.length=b8)
   (hc : ∀ i e,es[i]? = some e -> ∀ j c,e[j]? = some c->w.cell? ⟨b,o+(i*b8+j),none⟩=some (u i j))
   (hr : ∀ i e,es[i]? = some e -> ∀ j c,e[j]? = some c->Rd w R c (u i j)) :
   Rd w R (.sl l es) (.slice (some ⟨b,o,none⟩) es.length cap)
theorem Rd.one {w:World} {R:Bool->Nat->Prop} {a:AV} {v:Value} (h:Rd w R a v):v.oneCell'=true:=by
 cases h<;>rfl
theorem UF {w:World} {a:Addr} {u:Value} (h:w.cell? a=some u):a.block<w.heap.size:=by
 unfold World.cell? at h;split at h
 ·rename_i hh
  exact (Array.getElem?_eq_some_iff.1 hh).1
 ·cases h
theorem YY {es:List (List AV)} {b8:Nat} (l9:es≠[]) (hp:0<b8) (hz : ∀ e∈es,e.length=b8) : ∃ e c,es[0]? = some e/\e[0]? = some c:=by
 cases es with
 | nil=>exact absurd rfl l9
 | cons e r =>
  have:=hz e (by simp)
  cases e with
  | nil=>simp at this;omega
  | cons c q=>exact ⟨c::q,c,rfl,rfl⟩
theorem Rd.mono {w w':World} {R R':Bool->Nat->Prop} (hR : ∀ l b,b<w.heap.size->R l b->R' l b)
  (hw : ∀ l b,b<w.heap.size->R l b->w'.heap[b]? = w.heap[b]?) {a:AV} {v:Value} (h:Rd w R a v):Rd w' R' a v:=by
 induction h with
 | int k n=>exact .int k n
 | bool b=>exact .bool b
 | str s=>exact .str s
 | jk=>exact .jk
 | gu l a cap=>exact .gu l a cap
 | emp b a cap h=>exact .emp b a cap h
 | sl l es b o b8 cap u l9 hp h1 ag hz hc hr ih =>
  obtain ⟨e,c,he,ep⟩:=YY l9 hp hz;have hb:b<w.heap.size:=UF (hc 0 e he 0 c ep);refine .sl l es b o b8 cap u l9 hp (hR l b hb h1) ag hz (λ i e he j c Ak => ?_) ih;rw[World.cell?_of_block (w:=w) (hw l b hb h1)];exact hc i e he j c Ak
structure M where
 ν:Nat->Nat->Option Nat
 own:AJ
 w:World
section
variable (B:Nat) (S:Nat->Prop)
def safe (m:M) (l:Bool) (b:Nat):Prop :=
 (S b/\b<B)\/(B<=b /\ ∀ s t,(m.own.get s t).isSome=true->m.ν s t≠some b)\/(l=true/\b<B)
inductive CC (m:M):AV->Value->Prop
 | rd {a:AV} {v:Value} (h:Rd m.w (safe B S m) a v):CC m a v
 | nil:CC m .nil (.slice none 0 0)
 | row (s t z off len:Nat) (a:Option Addr) (cap:Nat) (ht:t<m.own.g9 s) (bk:0<z) (ia:len<=cap) (ha:0<len->a.isSome=true)
   (h : ∀ b,m.own.get s t=some b->b.b8=z/\((len=0/\cap=0) \/ ∃ g arr e,m.ν s t=some g/\a=some ⟨g,off*z,none⟩/\m.w.heap[g]? = some (.cells arr e (0,0))/\(off+cap)*z<=arr.size)) :
   CC m (.row s t z off len) (.slice a len cap)
 | ptr (s t i j:Nat) (a:Addr) (ht:t<m.own.g9 s) (h : ∀ b,m.own.get s t=some b -> ∃ g,m.ν s t=some g/\a=⟨g,i*b.b8+j,none⟩):CC m (.ptr s t i j) (.pointer (some a))
 | u6 (cs:List AV) (b o:Nat) (u:Nat->Value) (l:Bool) (hR:cs≠[]->safe B S m l b) (hc : ∀ j c,cs[j]? = some c->m.w.cell? ⟨b,o+j,none⟩=some (u j)) (hr : ∀ j c,cs[j]? = some c->Rd m.w (safe B S m) c (u j)) :
   CC m (.u6 cs) (.pointer (some ⟨b,o,none⟩))
def CL (m:M) (cs:List AV) (vs:List Value):Prop:=cs.length=vs.length /\ ∀ (j:Nat) (c:AV) (v:Value),cs[j]? = some c->vs[j]? = some v->CC B S m c v
inductive CA (m:M):AV->Value->Prop
 | one {a:AV} {v:Value} (h:CC B S m a v):CA m a v
 | agg (cs:List AV) (vs:List Value) (h:CL B S m cs vs):CA m (.agg cs) (.agg vs.toArray)
 | fn (p:Bool) (f g:Nat) (cs:List AV) (vs:List Value) (hp:p=true->cs=[]) (h:CL B S m cs vs):CA m (.fn p f g cs) (.func (.func g) #[] vs.toArray)
 | qh (f g:Nat) (cs:List AV) (vs:List Value) (hp:cs≠[]) (h:CL B S m cs vs):CA m (.fn true f g cs) (.func (.func g) #[.agg vs.toArray] #[])
inductive CV (m:M):AV->Value->Prop
 | any (v:Value):CV m .any v
 | ca {a:AV} {v:Value} (h:CA B S m a v):CV m a v
 | g8 (as:List AV) (vs:List Value) (hl:as.length=vs.length) (h : ∀ (j:Nat) (c:AV) (v:Value),as[j]? = some c->vs[j]? = some v->CA B S m c v):CV m (.g8 as) (.tuple vs.toArray)
def Wt (m:M) (s t:Nat) (b:ES):Prop :=
 (∀ e∈b.es,e.length=b.b8)/\match m.ν s t with
  | none=>b.es=[]
  | some g=>B<=g /\ ∃ arr e,m.w.heap[g]? = some (.cells arr e (0,0)) /\
    ∀ i cs,b.es[i]? = some cs -> ∀ j c,cs[j]? = some c -> ∃ u,arr[i*b.b8+j]? = some u/\CC B S m c u
structure BR (w0:World) (m:M):Prop where
 below:Below B w0 m.w
 size:B<=m.w.heap.size
 fresh : ∀ s t,m.own.g9 s<=t->m.own.get s t=none
 e8 : ∀ s t b,m.own.get s t=some b->Wt B S m s t b
 inj : ∀ s t s' t' b b' g,m.own.get s t=some b->m.own.get s' t'=some b'->m.ν s t=some g->m.ν s' t'=some g->s=s'/\t=t'
structure DS (m m':M):Prop where
 size:m.w.heap.size<=m'.w.heap.size
 sn : ∀ b,b<m.w.heap.size->safe B S m true b->m'.w.heap[b]? = m.w.heap[b]?
 xg : ∀ l b,b<m.w.heap.size->safe B S m l b->safe B S m' l b
 g9 : ∀ s,m.own.g9 s<=m'.own.g9 s
 name : ∀ s t b',t<m.own.g9 s->m'.own.get s t=some b' -> ∃ b,m.own.get s t=some b/\b'.b8=b.b8/\m'.ν s t=m.ν s t /\
   ∀ g arr e,m.ν s t=some g->m.w.heap[g]? = some (.cells arr e (0,0)) -> ∃ v3,m'.w.heap[g]? = some (.cells v3 e (0,0))/\v3.size=arr.size
end
section
variable {B:Nat} {S:Nat->Prop}
theorem nD {m:M} {l:Bool} {b:Nat} (h:safe B S m l b):safe B S m true b:=by
 rcases h with h|h|⟨_,h⟩
 ·exact .inl h
 ·exact .inr (.inl h)
 ·exact .inr (.inr ⟨rfl,h⟩)
theorem DS.rd {m m':M} (h:DS B S m m') {a:AV} {v:Value} (hr:Rd m.w (safe B S m) a v):Rd m'.w (safe B S m') a v :=
 hr.mono h.xg (λ_ b hb hs=>h.sn b hb (nD hs))
theorem DS.cc {m m':M} (h:DS B S m m') {a:AV} {v:Value} (hc:CC B S m a v):CC B S m' a v:=by
 cases hc with
 | rd hr=>exact .rd (h.rd hr)
 | nil=>exact .nil
 | row s t z off len a cap ht bk ia ha hb =>
  refine .row s t z off len a cap (Nat.lt_of_lt_of_le ht (h.g9 s)) bk ia ha λ b' k8 => ?_
  obtain ⟨b,h1,h2,h3,h4⟩:=h.name s t b' ht k8;obtain ⟨hz,cr⟩:=hb b h1;refine ⟨h2.trans hz,?_⟩;rcases cr with h0|⟨g,arr,e,hg,jb,hh,hle⟩
  ·exact .inl h0
  ·obtain ⟨v3,Iw,po⟩:=h4 g arr e hg hh
   exact .inr ⟨g,v3,e,h3.trans hg,jb,Iw,po ▸ hle⟩
 | ptr s t i j a ht hb =>
  refine .ptr s t i j a (Nat.lt_of_lt_of_le ht (h.g9 s)) λ b' k8 => ?_
  obtain ⟨b,h1,h2,h3,_⟩:=h.name s t b' ht k8;obtain ⟨g,hg,jb⟩:=hb b h1;exact ⟨g,h3.trans hg,h2 ▸ jb⟩
 | u6 cs b o u l hR hc hr =>
  have j9:cs≠[]->b<m.w.heap.size:=λ l9=>by
   cases cs with
   | nil=>exact absurd rfl l9
   | cons c r=>exact UF (hc 0 c rfl)
  refine .u6 cs b o u l (λ l9=>h.xg l b (j9 l9) (hR l9)) (λ j c hj => ?_) (λ j c hj=>h.rd (hr j c hj));have l9:cs≠[]:=λ e=>by subst e;simp at hj
  rw[World.cell?_of_block (w:=m.w) (h.sn b (j9 l9) (nD (hR l9)))];exact hc j c hj
theorem DS.cl {m m':M} (h:DS B S m m') {cs:List AV} {vs:List Value} (hc:CL B S m cs vs):CL B S m' cs vs :=
 ⟨hc.1,λ j c v h1 h2=>h.cc (hc.2 j c v h1 h2)⟩
theorem DS.ca {m m':M} (h:DS B S m m') {a:AV} {v:Value} (hc:CA B S m a v):CA B S m' a v:=by
 cases hc with
 | one hc=>exact .one (h.cc hc)
 | agg cs vs hc=>exact .agg cs vs (h.cl hc)
 | fn p f g cs vs hp hc=>exact .fn p f g cs vs hp (h.cl hc)
 | qh f g cs vs hp hc=>exact .qh f g cs vs hp (h.cl hc)
theorem DS.cv {m m':M} (h:DS B S m m') {a:AV} {v:Value} (hc:CV B S m a v):CV B S m' a v:=by
 cases hc with
 | any v=>exact .any v
 | ca hc=>exact .ca (h.ca hc)
 | g8 as vs hl hc=>exact .g8 as vs hl λ j c v h1 h2=>h.ca (hc j c v h1 h2)
theorem DS.refl (m:M):DS B S m m :=
 ⟨Nat.le_refl _,λ_ _ _=>rfl,λ_ _ _ h=>h,λ_=>Nat.le_refl _,λ_ _ b' _ h=>⟨b',h,rfl,rfl,λ_ arr _ _ h=>⟨arr,h,rfl⟩⟩⟩
theorem DS.trans {m m' Vb:M} (h:DS B S m m') (k:DS B S m' Vb):DS B S m Vb where
 size:=Nat.le_trans h.size k.size
 sn b hb hs:=(k.sn b (Nat.lt_of_lt_of_le hb h.size) (h.xg true b hb hs)).trans (h.sn b hb hs)
 xg l b hb hs:=k.xg l b (Nat.lt_of_lt_of_le hb h.size) (h.xg l b hb hs)
 g9 s:=Nat.le_trans (h.g9 s) (k.g9 s)
 name s t b'' ht Jg:=by
  obtain ⟨b',h1,h2,h3,h4⟩:=k.name s t b'' (Nat.lt_of_lt_of_le ht (h.g9 s)) Jg;obtain ⟨b,g1,g2,g3,g4⟩:=h.name s t b' ht h1;refine ⟨b,g1,h2.trans g2,h3.trans g3,λ g arr e hg ha => ?_⟩;obtain ⟨v3,Iw,po⟩:=g4 g arr e hg ha;obtain ⟨Bk,Ix,Kz⟩:=h4 g v3 e (g3.trans hg) Iw;exact ⟨Bk,Ix,Kz.trans po⟩
theorem CC.one {m:M} {a:AV} {v:Value} (h:CC B S m a v):v.oneCell'=true:=by
 cases h with
 | rd h=>exact h.one
 | _=>rfl
end
end Go.c6

namespace Go.c6
open Go.RowKit
section
variable {B:Nat} {S:Nat->Prop} {w0:World}
def live (m:M) (s t:Nat):Prop := ∃ b,m.own.get s t=some b
theorem BR.ge {m:M} (h:BR B S w0 m) {s t g:Nat} (hl:live m s t) (hg:m.ν s t=some g):B<=g /\ ∃ arr e,m.w.heap[g]? = some (.cells arr e (0,0)):=by
 obtain ⟨b,hb⟩:=hl;obtain ⟨_,h2⟩:=h.e8 s t b hb;rw[hg]at h2;obtain ⟨h3,arr,e,h4,_⟩:=h2;exact ⟨h3,arr,e,h4⟩
theorem UT {m m':M} (hm:BR B S w0 m) (hs:m.w.heap.size<=m'.w.heap.size)
  (hk : ∀ b,b<m.w.heap.size->(∀ s t,live m s t->m.ν s t≠some b)->m'.w.heap[b]? = m.w.heap[b]?) (yi : ∀ s,m.own.g9 s<=m'.own.g9 s)
  (Dp : ∀ s t b',t<m.own.g9 s->m'.own.get s t=some b' -> ∃ b,m.own.get s t=some b/\b'.b8=b.b8/\m'.ν s t=m.ν s t /\
   ∀ g arr e,m.ν s t=some g->m.w.heap[g]? = some (.cells arr e (0,0)) -> ∃ v3,m'.w.heap[g]? = some (.cells v3 e (0,0))/\v3.size=arr.size)
  (gj : ∀ s t g,live m' s t->m'.ν s t=some g->g<m.w.heap.size -> ∃ s0 t0,live m s0 t0/\m.ν s0 t0=some g):DS B S m m':=by
 have ew : ∀ b,safe B S m true b -> ∀ s t,live m s t->m.ν s t≠some b:=by
  intro b hb s t hl hg;have km:=(hm.ge hl hg).1;rcases hb with ⟨_,h⟩|⟨_,h⟩|⟨_,h⟩
  ·omega
  ·obtain ⟨b',k8⟩:=hl
   exact h s t (by simp [k8]) hg
  ·omega
 refine ⟨hs,λ b hb rq=>hk b hb (ew b rq),λ l b hb rq => ?_,yi,Dp⟩;rcases rq with h|⟨h,hn⟩|h
 ·exact .inl h
 ·refine .inr (.inl ⟨h,λ s t hl hg => ?_⟩)
  obtain ⟨b',k8⟩:=Option.isSome_iff_exists.1 hl;obtain ⟨s0,t0,⟨b0,jc⟩,yo⟩:=gj s t b ⟨b',k8⟩ hg hb;exact hn s0 t0 (by simp [jc]) yo
 ·exact .inr (.inr h)
theorem grow {m:M} (hm:BR B S w0 m) {w':World} (hb:Below m.w.heap.size m.w w') :
  BR B S w0 ⟨m.ν,m.own,w'⟩/\DS B S m ⟨m.ν,m.own,w'⟩:=by
 have he:DS B S m ⟨m.ν,m.own,w'⟩:=by
  refine UT hm hb.size (λ b k8 _=>hb.block b k8) (λ_=>Nat.le_refl _) (λ s t b' _ k8=>⟨b',k8,rfl,rfl,λ g arr e hg ha=>⟨arr,?_,rfl⟩⟩) (λ s t g hl hg _=>⟨s,t,hl,hg⟩);have:g<m.w.heap.size:=(Array.getElem?_eq_some_iff.1 ha).1
  exact (hb.block g this).trans ha
 refine ⟨⟨hm.below.trans (hb.mono hm.size),Nat.le_trans hm.size hb.size,hm.fresh,λ s t b hg => ?_,hm.inj⟩,he⟩;obtain ⟨h1,h2⟩:=hm.e8 s t b hg;refine ⟨h1,?_⟩;show match m.ν s t with|none=>_|some g=>_
 cases hν:m.ν s t with
 | none=>rw[hν]at h2;exact h2
 | some g =>
  rw[hν]at h2;obtain ⟨h3,arr,e,h4,h5⟩:=h2;refine ⟨h3,arr,e,?_,λ i cs hi j c hj => ?_⟩
  ·exact (hb.block g (Array.getElem?_eq_some_iff.1 h4).1).trans h4
  ·obtain ⟨u,hu,x8⟩:=h5 i cs hi j c hj
   exact ⟨u,hu,he.cc x8⟩
theorem HD (o:AJ) (s s' t':Nat) (b:ES):(o.put s ((o s).new b)).get s' t'=if s'=s/\t'=o.g9 s then some b else o.get s' t':=by
 unfold AJ.get AJ.put CF.new AJ.g9;by_cases h:s'=s
 ·subst h
  by_cases h2:t'=(o s').g9<;>simp [h2]
 ·simp [h]
theorem L4 (o:AJ) (s s':Nat) (b:ES):(o.put s ((o s).new b)).g9 s'=if s'=s then o.g9 s+1 else o.g9 s':=by
 unfold AJ.g9 AJ.put CF.new;by_cases h:s'=s<;>simp [h]
theorem Y4 (o:AJ) (s t s' t':Nat) (b:Option ES):(o.put s ((o s).o7 t b)).get s' t'=if s'=s/\t'=t then b else o.get s' t':=by
 unfold AJ.get AJ.put CF.o7;by_cases h:s'=s
 ·subst h
  by_cases h2:t'=t<;>simp [h2]
 ·simp [h]
theorem rI (o:AJ) (s t s':Nat) (b:Option ES):(o.put s ((o s).o7 t b)).g9 s'=o.g9 s':=by
 unfold AJ.g9 AJ.put CF.o7;by_cases h:s'=s<;>simp [h]
def j5 (m:M) (s:Nat) (g:Option Nat):Nat->Nat->Option Nat:=λ s' t'=>if s'=s/\t'=m.own.g9 s then g else m.ν s' t'
theorem dJ {m:M} (hm:BR B S w0 m) (s:Nat) : ¬ live m s (m.own.g9 s):=λ⟨b,hb⟩=>by
 rw[hm.fresh s _ (Nat.le_refl _)]at hb;cases hb
theorem hJ {m:M} (hm:BR B S w0 m) (s:Nat) (b:ES) (arr:Array Value) (e:TypeId) (hz : ∀ x∈b.es,x.length=b.b8)
  (hc : ∀ i cs,b.es[i]? = some cs -> ∀ j c,cs[j]? = some c -> ∃ u,arr[i*b.b8+j]? = some u/\CC B S m c u) :
  BR B S w0 ⟨j5 m s (some m.w.heap.size),m.own.put s ((m.own s).new b),m.w.alloc (.cells arr e)⟩ /\
  DS B S m ⟨j5 m s (some m.w.heap.size),m.own.put s ((m.own s).new b),m.w.alloc (.cells arr e)⟩:=by
 have v7:(m.w.alloc (.cells arr e)).heap.size=m.w.heap.size+1:=by simp
 have hν : ∀ s' t',live m s' t'->j5 m s (some m.w.heap.size) s' t'=m.ν s' t':=λ s' t' hl=>by
  unfold j5;rw[if_neg];rintro ⟨rfl,rfl⟩
  exact dJ hm _ hl
 have he:DS B S m ⟨j5 m s (some m.w.heap.size),m.own.put s ((m.own s).new b),m.w.alloc (.cells arr e)⟩:=by
  refine UT hm (by rw[v7];omega) (λ k hk _=>Below.heap_alloc _ _ _ hk) (λ s' => ?_) (λ s' t' b' ht k8 => ?_) (λ s' t' g hl hg j9 => ?_)
  ·rw[L4];split
   ·rename_i h;subst h;omega
   ·exact Nat.le_refl _
  ·rw[HD]at k8
   rw[if_neg (by rintro ⟨rfl,rfl⟩;omega)]at k8;refine ⟨b',k8,rfl,hν s' t' ⟨b',k8⟩,λ g ar e' hg ha=>⟨ar,?_,rfl⟩⟩;exact (Below.heap_alloc _ _ _ (Array.getElem?_eq_some_iff.1 ha).1).trans ha
  ·obtain ⟨b',k8⟩:=hl
   have u5:=k8;rw[HD]at k8;by_cases h:s'=s/\t'=m.own.g9 s
   ·simp only[j5,if_pos h,Option.some.injEq]at hg
    omega
   ·rw[if_neg h]at k8
    exact ⟨s',t',⟨b',k8⟩,by rw[<-hν s' t' ⟨b',k8⟩];exact hg⟩
 refine ⟨⟨hm.below.alloc hm.size _,by rw[v7];have:=hm.size;omega,λ s' t' ht => ?_,λ s' t' b' k8 => ?_,λ s1 t1 s2 t2 b1 b2 g h1 h2 g1 g2 => ?_⟩,he⟩
 ·rw[L4]at ht
  rw[HD,if_neg]
  ·refine hm.fresh s' t' ?_
   split at ht
   ·rename_i h;subst h;omega
   ·exact ht
  ·rintro ⟨rfl,rfl⟩
   simp at ht;omega
 ·rw[HD]at k8
  by_cases h:s'=s/\t'=m.own.g9 s
  ·rw[if_pos h]at k8
   obtain rfl:b=b':=by simpa using k8
   refine ⟨hz,?_⟩;show match j5 m s (some m.w.heap.size) s' t' with|none=>_|some g=>_
   rw[show j5 m s (some m.w.heap.size) s' t'=some m.w.heap.size by simp [j5,h]];refine ⟨hm.size,arr,e,heap_alloc_new _ _,λ i cs hi j c hj => ?_⟩;obtain ⟨u,hu,x8⟩:=hc i cs hi j c hj;exact ⟨u,hu,he.cc x8⟩
  ·rw[if_neg h]at k8
   obtain ⟨h1,h2⟩:=hm.e8 s' t' b' k8;refine ⟨h1,?_⟩;show match j5 m s (some m.w.heap.size) s' t' with|none=>_|some g=>_
   rw[hν s' t' ⟨b',k8⟩];cases hv:m.ν s' t' with
   | none=>rw[hv]at h2;exact h2
   | some g =>
    rw[hv]at h2;obtain ⟨h3,ar,e',h4,h5⟩:=h2;refine ⟨h3,ar,e',(Below.heap_alloc _ _ _ (Array.getElem?_eq_some_iff.1 h4).1).trans h4,λ i cs hi j c hj => ?_⟩;obtain ⟨u,hu,x8⟩:=h5 i cs hi j c hj;exact ⟨u,hu,he.cc x8⟩
 ·rw[HD]at h1 h2
  have lt : ∀ s' t' b',m.own.get s' t'=some b'->j5 m s (some m.w.heap.size) s' t'=some g->g<m.w.heap.size:=λ s' t' b' hb hg=>by
   rw[hν s' t' ⟨b',hb⟩]at hg;obtain ⟨_,ar,e',h4⟩:=hm.ge ⟨b',hb⟩ hg;exact (Array.getElem?_eq_some_iff.1 h4).1
  have at_ : ∀ s' t',s'=s/\t'=m.own.g9 s->j5 m s (some m.w.heap.size) s' t'=some g->g=m.w.heap.size:=λ s' t' h hg=>by
   simp only[j5,if_pos h,Option.some.injEq]at hg;exact hg.symm
  by_cases p1:s1=s/\t1=m.own.g9 s<;>by_cases p2:s2=s/\t2=m.own.g9 s
  ·exact ⟨p1.1.trans p2.1.symm,p1.2.trans p2.2.symm⟩
  ·rw[if_neg p2]at h2
   have:=lt s2 t2 b2 h2 g2
   have:=at_ s1 t1 p1 g1
   omega
  ·rw[if_neg p1]at h1
   have:=lt s1 t1 b1 h1 g1
   have:=at_ s2 t2 p2 g2
   omega
  ·rw[if_neg p1]at h1
   rw[if_neg p2]at h2;exact hm.inj s1 t1 s2 t2 b1 b2 g h1 h2 (by rw[<-hν s1 t1 ⟨b1,h1⟩];exact g1) (by rw[<-hν s2 t2 ⟨b2,h2⟩];exact g2)
theorem Qb {m:M} (hm:BR B S w0 m) (s b8:Nat) :
  BR B S w0 ⟨j5 m s none,m.own.put s ((m.own s).new ⟨b8,[]⟩),m.w⟩/\DS B S m ⟨j5 m s none,m.own.put s ((m.own s).new ⟨b8,[]⟩),m.w⟩:=by
 have hν : ∀ s' t',live m s' t'->j5 m s none s' t'=m.ν s' t':=λ s' t' hl=>by
  unfold j5;rw[if_neg];rintro ⟨rfl,rfl⟩
  exact dJ hm _ hl
 have he:DS B S m ⟨j5 m s none,m.own.put s ((m.own s).new ⟨b8,[]⟩),m.w⟩:=by
  refine UT hm (Nat.le_refl _) (λ k hk _=>rfl) (λ s' => ?_) (λ s' t' b' ht k8 => ?_) (λ s' t' g hl hg j9 => ?_)
  ·rw[L4];split
   ·rename_i h;subst h;omega
   ·exact Nat.le_refl _
  ·rw[HD]at k8
   rw[if_neg (by rintro ⟨rfl,rfl⟩;omega)]at k8;exact ⟨b',k8,rfl,hν s' t' ⟨b',k8⟩,λ g ar e' hg ha=>⟨ar,ha,rfl⟩⟩
  ·obtain ⟨b',k8⟩:=hl
   rw[HD]at k8;by_cases h:s'=s/\t'=m.own.g9 s
   ·simp [j5,if_pos h]at hg
   ·rw[if_neg h]at k8
    exact ⟨s',t',⟨b',k8⟩,by rw[<-hν s' t' ⟨b',k8⟩];exact hg⟩
 refine ⟨⟨hm.below,hm.size,λ s' t' ht => ?_,λ s' t' b' k8 => ?_,λ s1 t1 s2 t2 b1 b2 g h1 h2 g1 g2 => ?_⟩,he⟩
 ·rw[L4]at ht
  rw[HD,if_neg]
  ·refine hm.fresh s' t' ?_
   split at ht
   ·rename_i h;subst h;omega
   ·exact ht
  ·rintro ⟨rfl,rfl⟩
   simp at ht;omega
 ·rw[HD]at k8
  by_cases h:s'=s/\t'=m.own.g9 s
  ·rw[if_pos h]at k8
   obtain rfl:(⟨b8,[]⟩:ES)=b':=by simpa using k8
   refine ⟨by simp,?_⟩;show match j5 m s none s' t' with|none=>_|some g=>_
   rw[show j5 m s none s' t'=none by simp [j5,h]]
  ·rw[if_neg h]at k8
   obtain ⟨h1,h2⟩:=hm.e8 s' t' b' k8;refine ⟨h1,?_⟩;show match j5 m s none s' t' with|none=>_|some g=>_
   rw[hν s' t' ⟨b',k8⟩];cases hv:m.ν s' t' with
   | none=>rw[hv]at h2;exact h2
   | some g =>
    rw[hv]at h2;obtain ⟨h3,ar,e',h4,h5⟩:=h2;refine ⟨h3,ar,e',h4,λ i cs hi j c hj => ?_⟩;obtain ⟨u,hu,x8⟩:=h5 i cs hi j c hj;exact ⟨u,hu,he.cc x8⟩
 ·rw[HD]at h1 h2
  by_cases p1:s1=s/\t1=m.own.g9 s
  ·simp [j5,if_pos p1]at g1
  ·by_cases p2:s2=s/\t2=m.own.g9 s
   ·simp [j5,if_pos p2]at g2
   ·rw[if_neg p1]at h1
    rw[if_neg p2]at h2;exact hm.inj s1 t1 s2 t2 b1 b2 g h1 h2 (by rw[<-hν s1 t1 ⟨b1,h1⟩];exact g1) (by rw[<-hν s2 t2 ⟨b2,h2⟩];exact g2)
theorem Aly {m:M} (hm:BR B S w0 m) (s t:Nat) (b b':ES) (hb:m.own.get s t=some b) (g:Nat) (hg:m.ν s t=some g) (arr v3:Array Value) (e:TypeId)
  (ha:m.w.heap[g]? = some (.cells arr e (0,0))) (hz':b'.b8=b.b8) (hz : ∀ x∈b'.es,x.length=b'.b8) (v7:v3.size=arr.size)
  (hc : ∀ i cs,b'.es[i]? = some cs -> ∀ j c,cs[j]? = some c -> ∃ u,v3[i*b'.b8+j]? = some u/\CC B S m c u) (w':World) (gd:Below B w0 w') (wu:w'.heap.size=m.w.heap.size)
  (hk : ∀ k,k≠g->w'.heap[k]? = m.w.heap[k]?) (Tr:w'.heap[g]? = some (.cells v3 e (0,0))) :
  BR B S w0 ⟨m.ν,m.own.put s ((m.own s).o7 t (some b')),w'⟩/\DS B S m ⟨m.ν,m.own.put s ((m.own s).o7 t (some b')),w'⟩:=by
 have j9:t<m.own.g9 s:=by
  rcases Nat.lt_or_ge t (m.own.g9 s) with h|h
  ·exact h
  ·rw[hm.fresh s t h]at hb;cases hb
 have he:DS B S m ⟨m.ν,m.own.put s ((m.own s).o7 t (some b')),w'⟩:=by
  refine UT hm (by rw[wu];exact Nat.le_refl _) (λ k fu hn=>hk k (λ e=>hn s t ⟨b,hb⟩ (e ▸ hg))) (λ s'=>by rw[rI];exact Nat.le_refl _) (λ s' t' b2 ht u5 => ?_) (λ s' t' g' hl cq _ => ?_)
  ·rw[Y4]at u5
   by_cases h:s'=s/\t'=t
   ·obtain ⟨rfl,rfl⟩:=h
    rw[if_pos ⟨rfl,rfl⟩]at u5;obtain rfl:b'=b2:=by simpa using u5
    refine ⟨b,hb,hz',rfl,λ g2 ar e' iu yf => ?_⟩;obtain rfl:g=g2:=by rw[hg]at iu;simpa using iu
    rw[ha]at yf;obtain ⟨rfl,rfl⟩:arr=ar/\e=e':=by simpa using yf
    exact ⟨v3,Tr,v7⟩
   ·rw[if_neg h]at u5
    refine ⟨b2,u5,rfl,rfl,λ g2 ar e' iu yf=>⟨ar,?_,rfl⟩⟩;rw[<-yf];exact hk g2 (λ e2=>h (by
     subst e2;exact hm.inj s' t' s t b2 b g2 u5 hb iu hg))
  ·obtain ⟨b2,u5⟩:=hl
   rw[Y4]at u5;by_cases h:s'=s/\t'=t
   ·obtain ⟨rfl,rfl⟩:=h
    exact ⟨s',t',⟨b,hb⟩,cq⟩
   ·rw[if_neg h]at u5
    exact ⟨s',t',⟨b2,u5⟩,cq⟩
 refine ⟨⟨gd,by rw[wu];exact hm.size,λ s' t' ht => ?_,λ s' t' b2 u5 => ?_,λ s1 t1 s2 t2 b1 b2 g1 h1 h2 e1 e2 => ?_⟩,he⟩
 ·rw[rI]at ht
  rw[Y4,if_neg (by rintro ⟨rfl,rfl⟩;omega)];exact hm.fresh s' t' ht
 ·rw[Y4]at u5
  by_cases h:s'=s/\t'=t
  ·obtain ⟨rfl,rfl⟩:=h
   rw[if_pos ⟨rfl,rfl⟩]at u5;obtain rfl:b'=b2:=by simpa using u5
   refine ⟨hz,?_⟩;show match m.ν s' t' with|none=>_|some g=>_
   rw[hg];refine ⟨(hm.ge ⟨b,hb⟩ hg).1,v3,e,Tr,λ i cs hi j c hj => ?_⟩;obtain ⟨u,hu,x8⟩:=hc i cs hi j c hj;exact ⟨u,hu,he.cc x8⟩
  ·rw[if_neg h]at u5
   obtain ⟨h1,h2⟩:=hm.e8 s' t' b2 u5;refine ⟨h1,?_⟩;show match m.ν s' t' with|none=>_|some g=>_
   cases hv:m.ν s' t' with
   | none=>rw[hv]at h2;exact h2
   | some g2 =>
    rw[hv]at h2;obtain ⟨h3,ar,e',h4,h5⟩:=h2;refine ⟨h3,ar,e',?_,λ i cs hi j c hj => ?_⟩
    ·rw[<-h4]
     exact hk g2 (λ e2=>h (by
      subst e2;exact hm.inj s' t' s t b2 b g2 u5 hb hv hg))
    ·obtain ⟨u,hu,x8⟩:=h5 i cs hi j c hj
     exact ⟨u,hu,he.cc x8⟩
 ·have old : ∀ s' t' b2,(m.own.put s ((m.own s).o7 t (some b'))).get s' t'=some b2 -> ∃ b3,m.own.get s' t'=some b3:=λ s' t' b2 h=>by
   rw[Y4]at h;by_cases h':s'=s/\t'=t
   ·obtain ⟨rfl,rfl⟩:=h';exact ⟨b,hb⟩
   ·rw[if_neg h']at h;exact ⟨b2,h⟩
  obtain ⟨c1,k1⟩:=old s1 t1 b1 h1;obtain ⟨c2,k2⟩:=old s2 t2 b2 h2;exact hm.inj s1 t1 s2 t2 c1 c2 g1 k1 k2 e1 e2
theorem UV (o:AJ) (s t s' t':Nat) (b:ES):(o.put s (((o s).o7 t none).new b)).get s' t'=if s'=s/\t'=o.g9 s then some b else if s'=s/\t'=t then none else o.get s' t':=by
 unfold AJ.get AJ.put CF.new CF.o7 AJ.g9;by_cases h:s'=s
 ·subst h
  by_cases h2:t'=(o s').g9<;>by_cases h3:t'=t<;>simp [h2,h3]
 ·simp [h]
theorem bQ (o:AJ) (s t s':Nat) (b:ES):(o.put s (((o s).o7 t none).new b)).g9 s'=if s'=s then o.g9 s+1 else o.g9 s':=by
 unfold AJ.g9 AJ.put CF.new CF.o7;by_cases h:s'=s<;>simp [h]
theorem lZ {m:M} (hm:BR B S w0 m) (s t:Nat) (b b':ES) (hb:m.own.get s t=some b) (br:Option Nat) (w':World) (gd:Below B w0 w') (v7:m.w.heap.size<=w'.heap.size)
  (hk : ∀ k,k<m.w.heap.size->m.ν s t≠some k->w'.heap[k]? = m.w.heap[k]?) (hz : ∀ x∈b'.es,x.length=b'.b8)
  (rm:br=none->b'.es=[])
  (ry : ∀ g,br=some g->B<=g/\(m.w.heap.size<=g\/m.ν s t=some g) /\ ∃ arr e,w'.heap[g]? = some (.cells arr e (0,0)) /\
   ∀ i cs,b'.es[i]? = some cs -> ∀ j c,cs[j]? = some c -> ∃ u,arr[i*b'.b8+j]? = some u/\CC B S m c u) :
  BR B S w0 ⟨j5 m s br,m.own.put s (((m.own s).o7 t none).new b'),w'⟩/\DS B S m ⟨j5 m s br,m.own.put s (((m.own s).o7 t none).new b'),w'⟩:=by
 have j9:t<m.own.g9 s:=by
  rcases Nat.lt_or_ge t (m.own.g9 s) with h|h
  ·exact h
  ·rw[hm.fresh s t h]at hb;cases hb
 have hν : ∀ s' t',live m s' t'->j5 m s br s' t'=m.ν s' t':=λ s' t' hl=>by
  unfold j5;rw[if_neg];rintro ⟨rfl,rfl⟩
  exact dJ hm _ hl
 have he:DS B S m ⟨j5 m s br,m.own.put s (((m.own s).o7 t none).new b'),w'⟩:=by
  refine UT hm v7 (λ k fu hn=>hk k fu (hn s t ⟨b,hb⟩)) (λ s' => ?_) (λ s' t' b2 ht u5 => ?_) (λ s' t' g' hl cq ri => ?_)
  ·rw[bQ];split
   ·rename_i h;subst h;omega
   ·exact Nat.le_refl _
  ·rw[UV]at u5
   rw[if_neg (by rintro ⟨rfl,rfl⟩;omega)]at u5;by_cases h:s'=s/\t'=t
   ·rw[if_pos h]at u5;cases u5
   ·rw[if_neg h]at u5
    refine ⟨b2,u5,rfl,hν s' t' ⟨b2,u5⟩,λ g2 ar e' iu yf=>⟨ar,?_,rfl⟩⟩;rw[<-yf];exact hk g2 (Array.getElem?_eq_some_iff.1 yf).1 (λ e2=>h (hm.inj s' t' s t b2 b g2 u5 hb iu e2))
  ·obtain ⟨b2,u5⟩:=hl
   rw[UV]at u5;by_cases h0:s'=s/\t'=m.own.g9 s
   ·simp only[j5,if_pos h0]at cq
    obtain ⟨_,h2,_⟩:=ry g' cq;rcases h2 with h2|h2
    ·omega
    ·exact ⟨s,t,⟨b,hb⟩,h2⟩
   ·rw[if_neg h0]at u5
    by_cases h:s'=s/\t'=t
    ·rw[if_pos h]at u5;cases u5
    ·rw[if_neg h]at u5
     exact ⟨s',t',⟨b2,u5⟩,by rw[<-hν s' t' ⟨b2,u5⟩];exact cq⟩
 refine ⟨⟨gd,Nat.le_trans hm.size v7,λ s' t' ht => ?_,λ s' t' b2 u5 => ?_,λ s1 t1 s2 t2 b1 b2 g1 h1 h2 e1 e2 => ?_⟩,he⟩
 ·rw[bQ]at ht
  have ju:m.own.g9 s'<=t' /\ ¬ (s'=s/\t'=m.own.g9 s):=by
   by_cases h:s'=s
   ·subst h
    simp at ht;exact ⟨by omega,by omega⟩
   ·simp [h]at ht
    exact ⟨ht,λ h'=>h h'.1⟩
  rw[UV,if_neg ju.2];split
  ·rfl
  ·exact hm.fresh s' t' ju.1
 ·rw[UV]at u5
  by_cases h0:s'=s/\t'=m.own.g9 s
  ·rw[if_pos h0]at u5
   obtain rfl:b'=b2:=by simpa using u5
   refine ⟨hz,?_⟩;show match j5 m s br s' t' with|none=>_|some g=>_
   rw[show j5 m s br s' t'=br by simp [j5,h0]];cases br with
   | none=>exact rm rfl
   | some g =>
    obtain ⟨h1,_,arr,e,h4,h5⟩:=ry g rfl;refine ⟨h1,arr,e,h4,λ i cs hi j c hj => ?_⟩;obtain ⟨u,hu,x8⟩:=h5 i cs hi j c hj;exact ⟨u,hu,he.cc x8⟩
  ·rw[if_neg h0]at u5
   by_cases h:s'=s/\t'=t
   ·rw[if_pos h]at u5;cases u5
   ·rw[if_neg h]at u5
    obtain ⟨h1,h2⟩:=hm.e8 s' t' b2 u5;refine ⟨h1,?_⟩;show match j5 m s br s' t' with|none=>_|some g=>_
    rw[hν s' t' ⟨b2,u5⟩];cases hv:m.ν s' t' with
    | none=>rw[hv]at h2;exact h2
    | some g2 =>
     rw[hv]at h2;obtain ⟨h3,ar,e',h4,h5⟩:=h2;refine ⟨h3,ar,e',?_,λ i cs hi j c hj => ?_⟩
     ·rw[<-h4]
      exact hk g2 (Array.getElem?_eq_some_iff.1 h4).1 (λ e2=>h (hm.inj s' t' s t b2 b g2 u5 hb hv e2))
     ·obtain ⟨u,hu,x8⟩:=h5 i cs hi j c hj
      exact ⟨u,hu,he.cc x8⟩
 ·rw[UV]at h1 h2
  have old : ∀ s' t' b2,(if s'=s/\t'=t then none else m.own.get s' t')=some b2->m.own.get s' t'=some b2 /\ ¬ (s'=s/\t'=t):=λ s' t' b2 h=>by
   by_cases h':s'=s/\t'=t
   ·rw[if_pos h']at h;cases h
   ·rw[if_neg h']at h;exact ⟨h,h'⟩
  have jy : ∀ s' t' b2,m.own.get s' t'=some b2 -> ¬ (s'=s/\t'=t)->j5 m s br s' t'=some g1->br=some g1->False:=λ s' t' b2 u5 l9 e1 e2=>by
   rw[hν s' t' ⟨b2,u5⟩]at e1;obtain ⟨_,h2,_⟩:=ry g1 e2;obtain ⟨_,ar,e',h4⟩:=hm.ge ⟨b2,u5⟩ e1;have:=(Array.getElem?_eq_some_iff.1 h4).1
   rcases h2 with h2|h2
   ·omega
   ·exact l9 (hm.inj s' t' s t b2 b g1 u5 hb e1 h2)
  have at_ : ∀ s' t',s'=s/\t'=m.own.g9 s->j5 m s br s' t'=some g1->br=some g1:=λ s' t' h hg=>by simpa [j5,if_pos h] using hg
  by_cases p1:s1=s/\t1=m.own.g9 s<;>by_cases p2:s2=s/\t2=m.own.g9 s
  ·exact ⟨p1.1.trans p2.1.symm,p1.2.trans p2.2.symm⟩
  ·rw[if_neg p2]at h2
   obtain ⟨k2,n2⟩:=old s2 t2 b2 h2;exact (jy s2 t2 b2 k2 n2 e2 (at_ s1 t1 p1 e1)).elim
  ·rw[if_neg p1]at h1
   obtain ⟨k1,n1⟩:=old s1 t1 b1 h1;exact (jy s1 t1 b1 k1 n1 e1 (at_ s2 t2 p2 e2)).elim
  ·rw[if_neg p1]at h1
   rw[if_neg p2]at h2;obtain ⟨k1,n1⟩:=old s1 t1 b1 h1;obtain ⟨k2,n2⟩:=old s2 t2 b2 h2;exact hm.inj s1 t1 s2 t2 b1 b2 g1 k1 k2 (by rw[<-hν s1 t1 ⟨b1,k1⟩];exact e1) (by rw[<-hν s2 t2 ⟨b2,k2⟩];exact e2)
theorem wT (o:AJ) (l:List Nat) (s t:Nat):(o.drop l).get s t=if s∈l then none else o.get s t:=by
 induction l with
 | nil=>simp [AJ.drop]
 | cons x r ih =>
  unfold AJ.get at *;by_cases h:s=x
  ·subst h;simp [AJ.drop,AJ.put]
  ·simp only[AJ.drop,AJ.put,if_neg h,List.mem_cons]
   rw[ih];by_cases h2:s∈r<;>simp [h,h2]
theorem rH (o:AJ) (l:List Nat) (s:Nat):(o.drop l).g9 s=o.g9 s:=by
 induction l with
 | nil=>simp [AJ.drop]
 | cons x r ih =>
  unfold AJ.g9 at *;by_cases h:s=x
  ·subst h;simp [AJ.drop,AJ.put]
  ·simp [AJ.drop,AJ.put,h,ih]
theorem AfQ {m:M} (hm:BR B S w0 m) (l:List Nat):BR B S w0 ⟨m.ν,m.own.drop l,m.w⟩/\DS B S m ⟨m.ν,m.own.drop l,m.w⟩:=by
 have old : ∀ s t b,(m.own.drop l).get s t=some b->m.own.get s t=some b:=λ s t b h=>by
  rw[wT]at h;split at h
  ·cases h
  ·exact h
 have he:DS B S m ⟨m.ν,m.own.drop l,m.w⟩:=by
  refine UT hm (Nat.le_refl _) (λ_ _ _=>rfl) (λ s=>by rw[rH];exact Nat.le_refl _) (λ s t b' _ k8=>⟨b',old s t b' k8,rfl,rfl,λ_ ar _ _ ha=>⟨ar,ha,rfl⟩⟩) (λ s t g hl hg _ => ?_);obtain ⟨b,hb⟩:=hl;exact ⟨s,t,⟨b,old s t b hb⟩,hg⟩
 refine ⟨⟨hm.below,hm.size,λ s t ht => ?_,λ s t b hb => ?_,λ s1 t1 s2 t2 b1 b2 g h1 h2=>hm.inj s1 t1 s2 t2 b1 b2 g (old _ _ _ h1) (old _ _ _ h2)⟩,he⟩
 ·rw[rH]at ht
  rw[wT];split
  ·rfl
  ·exact hm.fresh s t ht
 ·obtain ⟨h1,h2⟩:=hm.e8 s t b (old s t b hb)
  refine ⟨h1,?_⟩;show match m.ν s t with|none=>_|some g=>_
  cases hv:m.ν s t with
  | none=>rw[hv]at h2;exact h2
  | some g =>
   rw[hv]at h2;obtain ⟨h3,ar,e',h4,h5⟩:=h2;refine ⟨h3,ar,e',h4,λ i cs hi j c hj => ?_⟩;obtain ⟨u,hu,x8⟩:=h5 i cs hi j c hj;exact ⟨u,hu,he.cc x8⟩
end
end Go.c6

namespace Go.c6
section
variable {P:Program} {num:Nat->Nat} {op:Op}
theorem AiA {y:AU} (h:BD P num op (.a6 y)=true) : ∃ x,(op = .move x\/op = .assign x)/\B6 x y=true:=by
 cases op with
 | move x=>exact ⟨x,.inl rfl,h⟩
 | assign x=>exact ⟨x,.inr rfl,h⟩
 | _=>exact Bool.noConfusion h
theorem AiG {s z:Nat} (h:BD P num op (.y8 s z)=true):(op = .move (.const (.slice none 0 0))\/op = .assign (.const (.slice none 0 0)))/\z≠0:=by
 simp only[BD,Bool.and_eq_true,bne_iff_ne]at h;refine ⟨?_,h.1⟩;have h2:=h.2;split at h2<;>simp_all
theorem AiB {c' a' b':AU} (h:BD P num op (.pick c' a' b')=true) : ∃ c a b,op = .pick c a b/\B6 c c'=true/\B6 a a'=true/\B6 b b'=true:=by
 cases op with
 | pick c a b=>simp only[BD,Bool.and_eq_true]at h;exact ⟨c,a,b,rfl,h.1.1,h.1.2,h.2⟩
 | _=>exact Bool.noConfusion h
theorem Ail {f:BinOp} {x' y':AU} (h:BD P num op (.bin f x' y')=true) : ∃ t x y u,op = .binOp f t x y u/\B6 x x'=true/\B6 y y'=true:=by
 cases op with
 | binOp f' t x y u =>
  simp only[BD,Bool.and_eq_true,beq_iff_eq]at h;exact ⟨t,x,y,u,by rw[h.1.1],h.1.2,h.2⟩
 | _=>exact Bool.noConfusion h
theorem Aik {ne:Bool} {x' y':AU} (h:BD P num op (.beq ne x' y')=true) : ∃ t x y u,op = .binOp (if ne then .neq else .eql) t x y u/\P.underlying t=some .bool/\B6 x x'=true/\B6 y y'=true:=by
 cases op with
 | binOp f' t x y u =>
  simp only[BD,Bool.and_eq_true]at h;obtain ⟨⟨⟨h1,h2⟩,h3⟩,h4⟩:=h;refine ⟨t,x,y,u,?_,?_,h3,h4⟩
  ·cases ne<;>simp_all
  ·split at h2<;>simp_all
 | _=>exact Bool.noConfusion h
theorem AiF {f:UnOp} {x':AU} (h:BD P num op (.un f x')=true) : ∃ t x,op = .unOp f t x/\B6 x x'=true:=by
 cases op with
 | unOp f' t x =>
  simp only[BD,Bool.and_eq_true,beq_iff_eq]at h;exact ⟨t,x,by rw[h.1],h.2⟩
 | _=>exact Bool.noConfusion h
theorem Ait {k:IntKind} {x':AU} (h:BD P num op (.conv k x')=true) : ∃ s d x ds,op = .convert s d x/\P.underlying s=some ds/\P.underlying d=some (.int k)/\B6 x x'=true:=by
 cases op with
 | convert s d x =>
  simp only[BD,Bool.and_eq_true]at h;obtain ⟨⟨h1,h2⟩,h3⟩:=h;obtain ⟨ds,yl⟩:=Option.isSome_iff_exists.1 h1;refine ⟨s,d,x,ds,rfl,yl,?_,h3⟩;split at h2<;>simp_all
 | _=>exact Bool.noConfusion h
theorem Aim {s:Nat} {x':AU} (h:BD P num op (.box s x')=true) : ∃ t x,op = .box t x/\B6 x x'=true:=by
 cases op with
 | box t x=>exact ⟨t,x,rfl,h⟩
 | _=>exact Bool.noConfusion h
theorem Aij {s:Nat} {z:List AV} (h:BD P num op (.alloc s z)=true) : ∃ t,op = .alloc t/\VS P t z=true:=by
 cases op with
 | alloc t=>exact ⟨t,rfl,h⟩
 | _=>exact Bool.noConfusion h
theorem Aio {z:List AV} {ch:List (Nat × Nat × AU)} (h:BD P num op (.build z ch)=true) : ∃ t ps,op = .build t ps/\VS P t z=true/\iG P t ps.toList ch=true:=by
 cases op with
 | build t ps=>simp only[BD,Bool.and_eq_true]at h;exact ⟨t,ps,rfl,h.1,h.2⟩
 | _=>exact Bool.noConfusion h
theorem VH {t:TypeId} {f:TypeId->Bool} (h:P9 P t f=true) : ∃ e,P.underlying t=some (.slice e)/\f e=true:=by
 unfold P9 at h;split at h
 ·rename_i e he;exact ⟨e,he,h⟩
 ·cases h
theorem RI {t:TypeId} {n:Nat} (h:LA P t n=true) : ∃ i,P.info? t=some i/\i.size=n:=by
 unfold LA at h;split at h
 ·rename_i i hi;exact ⟨i,hi,by simpa using h⟩
 ·cases h
theorem qN {t:TypeId} {n:Nat} (h:bG P t n=true) : ∃ i,P.info? t=some i/\i.bytes=n:=by
 unfold bG at h;split at h
 ·rename_i i hi;exact ⟨i,hi,by simpa using h⟩
 ·cases h
theorem oQ {t:TypeId} {l:List AV} (h:VS P t l=true) : ∃ i z,P.info? t=some i/\i.zero=some z/\R6 z.cells.toList l=true:=by
 unfold VS at h;split at h
 ·rename_i i hi
  split at h
  ·rename_i z hz;exact ⟨i,z,hi,hz,h⟩
  ·cases h
 ·cases h
theorem gY {t:TypeId} {b:Bool} (h:(V1 P t == some b)=true) : ∀ w,(isAgg t).run P w = .ok b w:=by
 intro w;have h':V1 P t=some b:=by simpa using h
 unfold V1 at h';unfold isAgg;cases hu:P.underlying t with
 | none=>rw[hu]at h';cases h'
 | some d =>
  rw[hu]at h';rw[Sem.run_bind,run_underlying hu];cases d<;>simp_all<;>rfl
theorem Pg {e:TypeId} {n:Nat} (h:(match P.info? e with|some i=>(match i.zero with|some z=>z.cells.size == n|none=>false)|none=>false)=true) : ∃ i z,P.info? e=some i/\i.zero=some z/\z.cells.size=n:=by
 split at h
 ·rename_i i hi
  split at h
  ·rename_i z hz;exact ⟨i,z,hi,hz,by simpa using h⟩
  ·cases h
 ·cases h
theorem Ain {s b8:Nat} {ch:List AU} (h:BD P num op (.b7 s b8 ch)=true) : ∃ t n ps e i,op = .buildSlice t n ps/\P.underlying t=some (.slice e)/\P.info? e=some i/\i.size=b8/\b8≠0/\n=ch.length/\n*b8<=16777216/\UM 0 ps.toList ch=true/\(n=0 \/ ∃ z,i.zero=some z/\z.cells.size=b8):=by
 cases op with
 | buildSlice t n ps =>
  simp only[BD,Bool.and_eq_true,decide_eq_true_eq,bne_iff_ne,beq_iff_eq,Bool.or_eq_true]at h;obtain ⟨⟨⟨⟨⟨h1,h2⟩,h3⟩,h4⟩,h5⟩,h6⟩:=h;obtain ⟨e,he,h1⟩:=VH h1;obtain ⟨i,hi,hs⟩:=RI h1;refine ⟨t,n,ps,e,i,rfl,he,hi,hs,h2,h3,h4,h5,h6.imp id λ h6 => ?_⟩;obtain ⟨e',fh,h6⟩:=VH h6;rw[he]at fh;obtain rfl:e=e':=by simpa using fh
  obtain ⟨i',z,o6,hz,po⟩:=Pg h6;rw[hi]at o6;obtain rfl:i=i':=by simpa using o6
  exact ⟨z,hz,po⟩
 | _=>exact Bool.noConfusion h
theorem xR {x':AU} {off:Nat} (h:BD P num op (.a5 x' off)=true) : ∃ t x f fs fd i,op = .fieldAddr t x f/\B6 x x'=true/\P.underlying t=some (.struct fs)/\fs[f]? = some fd/\fd.offset=off/\P.info? fd.type=some i/\i.size≠0:=by
 cases op with
 | fieldAddr t x f =>
  simp only[BD,Bool.and_eq_true]at h;obtain ⟨h1,h2⟩:=h;split at h2
  ·rename_i fs qu
   split at h2
   ·rename_i fd Gb
    simp only[Bool.and_eq_true,beq_iff_eq]at h2;obtain ⟨h3,h4⟩:=h2;split at h4
    ·rename_i i hi
     exact ⟨t,x,f,fs,fd,i,rfl,h1,qu,Gb,h3,hi,by simpa using h4⟩
    ·cases h4
   ·cases h2
  ·cases h2
 | _=>exact Bool.noConfusion h
theorem Aiv {x':AU} {off n:Nat} {agg:Bool} (h:BD P num op (.lq x' off n agg)=true) : ∃ t x f fs fd i,op = .field t x f/\B6 x x'=true/\P.underlying t=some (.struct fs)/\fs[f]? = some fd/\fd.offset=off/\P.info? fd.type=some i/\i.size=n/\(∀ w,(isAgg fd.type).run P w = .ok agg w)/\n≠0:=by
 cases op with
 | field t x f =>
  simp only[BD,Bool.and_eq_true]at h;obtain ⟨⟨h1,h2⟩,h3⟩:=h;unfold vZ at h2;unfold wA at h3;split at h2
  ·rename_i fs qu
   split at h2
   ·rename_i fd Gb
    simp only[Bool.and_eq_true,beq_iff_eq,bne_iff_ne]at h2;obtain ⟨⟨h4,h5⟩,h6⟩:=h2;obtain ⟨i,hi,hs⟩:=RI h5;rw[qu]at h3;simp only[Gb]at h3;exact ⟨t,x,f,fs,fd,i,rfl,h1,qu,Gb,h4,hi,hs,gY h3,h6⟩
   ·cases h2
  ·cases h2
 | _=>exact Bool.noConfusion h
theorem cX {arr:Option Nat} {b8:Nat} {x' i':AU} (h:BD P num op (.a8 arr b8 x' i')=true) : ∃ t x i e inf,op = .indexAddr t x i/\B6 x x'=true/\B6 i i'=true/\P.info? e=some inf/\inf.size=b8 /\
  ((∃ len,arr=some len/\P.underlying t=some (.array len e)/\1<len)\/(arr=none/\P.underlying t=some (.slice e)/\b8≠0)):=by
 cases op with
 | indexAddr t x i =>
  simp only[BD,Bool.and_eq_true]at h;obtain ⟨⟨h1,h2⟩,h3⟩:=h;split at h3
  ·rename_i len e oz hu
   simp only[Bool.and_eq_true,beq_iff_eq,decide_eq_true_eq]at h3;obtain ⟨⟨h4,h5⟩,h6⟩:=h3;obtain ⟨inf,hi,hs⟩:=RI h5;exact ⟨t,x,i,e,inf,rfl,h1,h2,hi,hs,.inl ⟨len,by rw[h4],hu,h6⟩⟩
  ·rename_i e hu
   simp only[Bool.and_eq_true,bne_iff_ne]at h3;obtain ⟨inf,hi,hs⟩:=RI h3.1;exact ⟨t,x,i,e,inf,rfl,h1,h2,hi,hs,.inr ⟨rfl,hu,h3.2⟩⟩
  ·cases h3
 | _=>exact Bool.noConfusion h
theorem xS {agg:Bool} {n:Nat} {x':AU} (h:BD P num op (.ld agg n x')=true) : ∃ t x,op = .load t x/\B6 x x'=true/\(∀ w,(isAgg t).run P w = .ok agg w)/\(if agg then ∃ i,P.info? t=some i/\i.size=n else n=1):=by
 cases op with
 | load t x =>
  simp only[BD,Bool.and_eq_true]at h;obtain ⟨⟨h1,h2⟩,h3⟩:=h;refine ⟨t,x,rfl,h1,gY h2,?_⟩;cases agg
  ·simpa using h3
  ·exact RI (by simpa using h3)
 | _=>exact Bool.noConfusion h
theorem AiD {n:Nat} {x' v':AU} (h:BD P num op (.st n x' v')=true) : ∃ t x v i,op = .store t x v/\B6 x x'=true/\B6 v v'=true/\P.info? t=some i/\i.size=n:=by
 cases op with
 | store t x v =>
  simp only[BD,Bool.and_eq_true]at h;obtain ⟨⟨h1,h2⟩,h3⟩:=h;obtain ⟨i,hi,hs⟩:=RI h3;exact ⟨t,x,v,i,rfl,h1,h2,hi,hs⟩
 | _=>exact Bool.noConfusion h
theorem Aiy {s b8 bytes:Nat} {zero:List AV} {l' c':AU} (h:BD P num op (.mk s b8 bytes zero l' c')=true) : ∃ t l c e i z,op = .makeSlice t l c/\B6 l l'=true/\B6 c c'=true/\P.underlying t=some (.slice e)/\P.info? e=some i/\i.size=b8/\i.bytes=bytes/\i.zero=some z/\R6 z.cells.toList zero=true/\b8≠0:=by
 cases op with
 | makeSlice t l c =>
  simp only[BD,Bool.and_eq_true,bne_iff_ne]at h;obtain ⟨⟨⟨h1,h2⟩,h3⟩,h4⟩:=h;obtain ⟨e,he,h3⟩:=VH h3;simp only[Bool.and_eq_true]at h3;obtain ⟨⟨h5,h6⟩,h7⟩:=h3;obtain ⟨i,hi,hs⟩:=RI h5;obtain ⟨i2,um,uy⟩:=qN h6;obtain ⟨i3,z,Am,hz,gq⟩:=oQ h7;rw[hi]at um Am;obtain rfl:i=i2:=by simpa using um
  obtain rfl:i=i3:=by simpa using Am
  exact ⟨t,l,c,e,i,z,rfl,h1,h2,he,hi,hs,uy,hz,gq,h4⟩
 | _=>exact Bool.noConfusion h
theorem lJ {b8:Nat} {x':AU} {me o6:Option AU} (h:BD P num op (.cj b8 x' me o6)=true) : ∃ t x lo hi e i,op = .slice t x lo hi none/\B6 x x'=true/\Q4 lo me=true/\Q4 hi o6=true/\P.underlying t=some (.slice e)/\P.info? e=some i/\i.size=b8/\b8≠0:=by
 cases op with
 | slice t x lo hi mx =>
  cases mx with
  | some _=>exact Bool.noConfusion h
  | none =>
   simp only[BD,Bool.and_eq_true,bne_iff_ne]at h;obtain ⟨⟨⟨⟨h1,h2⟩,h3⟩,h4⟩,h5⟩:=h;obtain ⟨e,he,h4⟩:=VH h4;obtain ⟨i,o6,hs⟩:=RI h4;exact ⟨t,x,lo,hi,e,i,rfl,h1,h2,h3,he,o6,hs,h5⟩
 | _=>exact Bool.noConfusion h
theorem Aiu {x':AU} {i:Nat} (h:BD P num op (.ext x' i)=true) : ∃ x,op = .extract x i/\B6 x x'=true:=by
 cases op with
 | extract x j =>
  simp only[BD,Bool.and_eq_true,beq_iff_eq]at h;exact ⟨x,by rw[h.2],h.1⟩
 | _=>exact Bool.noConfusion h
theorem Pp {α:Type} {xs:Array α} {x y:α} (h:xs.toList=[x,y]):xs = #[x,y]:=by cases xs;simp_all
theorem Po {α:Type} {xs:Array α} {x:α} (h:xs.toList=[x]):xs = #[x]:=by cases xs;simp_all
theorem Aix {x':AU} (h:BD P num op (.len x')=true) : ∃ x t e,op = .call ⟨.builtin .len,#[x],#[t]⟩/\B6 x x'=true/\P.underlying t=some (.slice e):=by
 cases op with
 | call c =>
  obtain ⟨cl,xs,ts⟩:=c;cases cl with
  | builtin b =>
   cases b<;>first|exact Bool.noConfusion h|skip
   simp only[BD]at h;split at h
   ·rename_i x t hx ht
    simp only[Bool.and_eq_true]at h;obtain ⟨e,he,_⟩:=VH h.2;exact ⟨x,t,e,by rw[Po hx,Po ht],h.1,he⟩
   ·cases h
  | value f=>cases f<;>exact Bool.noConfusion h
  | invoke=>exact Bool.noConfusion h
 | _=>exact Bool.noConfusion h
theorem xT {mx:Bool} {n0:List AU} (h:BD P num op (.mm mx n0)=true) : ∃ xs ts,op = .call ⟨.builtin (if mx then .max else .min),xs,ts⟩/\EX xs.toList n0=true:=by
 cases op with
 | call c =>
  obtain ⟨cl,xs,ts⟩:=c;cases cl with
  | builtin b =>
   cases b<;>first|exact Bool.noConfusion h|skip
   all_goals
    simp only[BD,Bool.and_eq_true]at h;refine ⟨xs,ts,?_,h.2⟩;cases mx<;>simp_all
  | value f=>cases f<;>exact Bool.noConfusion h
  | invoke=>exact Bool.noConfusion h
 | _=>exact Bool.noConfusion h
theorem xQ {s b8 bytes:Nat} {x' y':AU} (h:BD P num op (.app s b8 bytes x' y')=true) : ∃ x y t e i z tx ex,op = .call ⟨.builtin .append,#[x,y],#[t,tx]⟩/\B6 x x'=true/\B6 y y'=true/\P.underlying t=some (.slice e)/\P.info? e=some i/\i.size=b8/\i.bytes=bytes/\i.zero=some z/\z.cells.size=b8/\b8≠0/\P.underlying tx=some (.slice ex):=by
 cases op with
 | call c =>
  obtain ⟨cl,xs,ts⟩:=c;cases cl with
  | builtin b =>
   cases b<;>first|exact Bool.noConfusion h|skip
   simp only[BD]at h;split at h
   ·rename_i x y t u hx ht
    simp only[Bool.and_eq_true,beq_iff_eq,bne_iff_ne]at h;obtain ⟨⟨⟨⟨h1,h2⟩,h3⟩,h4⟩,h5⟩:=h;obtain ⟨e,he,h3⟩:=VH h3;simp only[Bool.and_eq_true]at h3;obtain ⟨⟨h6,h7⟩,h8⟩:=h3;obtain ⟨i,hi,hs⟩:=RI h6;obtain ⟨i2,um,uy⟩:=qN h7;obtain ⟨i3,z,Am,hz,gq⟩:=Pg h8;rw[hi]at um Am;obtain rfl:i=i2:=by simpa using um
    obtain rfl:i=i3:=by simpa using Am
    obtain ⟨ex,hex,_⟩:=VH h5;exact ⟨x,y,t,e,i,z,u,ex,by rw[Pp hx,Pp ht],h1,h2,he,hi,hs,uy,hz,gq,h4,hex⟩
   ·cases h
  | value f=>cases f<;>exact Bool.noConfusion h
  | invoke=>exact Bool.noConfusion h
 | _=>exact Bool.noConfusion h
theorem lH {f:Nat} {n0:List AU} (h:BD P num op (.call f n0)=true) : ∃ xs ts,op = .call ⟨.value (.func (num f)),xs,ts⟩/\EX xs.toList n0=true:=by
 cases op with
 | call c =>
  obtain ⟨cl,xs,ts⟩:=c;cases cl with
  | builtin b=>cases b<;>exact Bool.noConfusion h
  | value g =>
   cases g with
   | func g =>
    simp only[BD,Bool.and_eq_true,beq_iff_eq]at h;exact ⟨xs,ts,by rw[h.1],h.2⟩
   | _=>exact Bool.noConfusion h
  | invoke=>exact Bool.noConfusion h
 | _=>exact Bool.noConfusion h
theorem Aip {f:Nat} {n0:List AU} (h:BD P num op (.g6 f n0)=true) : ∃ xs ts,op = .call ⟨.value (.func (num f)),xs,ts⟩/\EX xs.toList n0=true:=by
 cases op with
 | call c =>
  obtain ⟨cl,xs,ts⟩:=c;cases cl with
  | builtin b=>cases b<;>exact Bool.noConfusion h
  | value g =>
   cases g with
   | func g =>
    simp only[BD,Bool.and_eq_true,beq_iff_eq]at h;exact ⟨xs,ts,by rw[h.1],h.2⟩
   | _=>exact Bool.noConfusion h
  | invoke=>exact Bool.noConfusion h
 | _=>exact Bool.noConfusion h
theorem Aiq {f:Nat} {n0:List AU} (h:BD P num op (.m5 f n0)=true):BD P num op (.call f n0)=true:=by
 cases op<;>exact h
theorem Ais {s f:Nat} {n0:List AU} (h:BD P num op (.aq s f n0)=true):BD P num op (.g6 f n0)=true:=by
 cases op<;>exact h
theorem Air {s f:Nat} {n0:List AU} (h:BD P num op (.o5 s f n0)=true):BD P num op (.call f n0)=true:=by
 cases op<;>exact h
theorem AiE {s n:Nat} {x' v':AU} (h:BD P num op (.mi s n x' v')=true):BD P num op (.st n x' v')=true:=by
 cases op<;>exact h
theorem Aiw {ne:Bool} {x':AU} (h:BD P num op (.oy ne x')=true) : ∃ t x u e,op = .binOp (if ne then .neq else .eql) t x (.const (.slice none 0 0)) u/\P.underlying t=some (.slice e)/\B6 x x'=true:=by
 cases op with
 | binOp f' t x y u =>
  simp only[BD]at h;split at h
  ·rename_i heq
   simp only[Op.binOp.injEq]at heq;obtain ⟨rfl,rfl,rfl,rfl,rfl⟩:=heq;simp only[Bool.and_eq_true]at h;obtain ⟨⟨h1,h2⟩,h3⟩:=h;unfold P9 at h2;split at h2
   ·rename_i e he
    refine ⟨t,x,u,e,?_,he,h3⟩;cases ne
    ·simp only[Bool.false_eq_true,if_false,beq_iff_eq]at h1;rw[h1];rfl
    ·simp only[if_true,beq_iff_eq]at h1;rw[h1];rfl
   ·cases h2
  ·cases h
 | _=>exact Bool.noConfusion h
theorem AiC {tb:List Nat} {i':AU} (h:BD P num op (.eo tb i')=true) : ∃ t s i,op = .index t (.const (.string s)) i/\P.underlying t=some .string/\s.data.toList.map (λ b=>b.toNat)=tb/\B6 i i'=true:=by
 cases op with
 | index t x i =>
  simp only[BD]at h;split at h
  ·rename_i heq
   simp only[Op.index.injEq]at heq;obtain ⟨rfl,rfl,rfl⟩:=heq;simp only[Bool.and_eq_true,beq_iff_eq]at h;obtain ⟨⟨h1,h2⟩,h3⟩:=h;exact ⟨_,_,_,rfl,by split at h1<;>simp_all,h2,h3⟩
  ·cases h
 | _=>exact Bool.noConfusion h
theorem Aiz {p:Bool} {f:Nat} {n0:List AU} (h:BD P num op (.mf p f n0)=true) : ∃ first xs,op = .makeFunc (.func (num f)) first xs/\first = #[]/\EX xs.toList n0=true:=by
 cases op with
 | makeFunc g first xs =>
  cases g with
  | func g =>
   simp only[BD,Bool.and_eq_true,beq_iff_eq]at h;obtain ⟨⟨rfl,h2⟩,h3⟩:=h;refine ⟨first,xs,rfl,?_,h3⟩;obtain ⟨l⟩:=first
   simp at h2;rw[h2]
  | _=>exact Bool.noConfusion h
 | _=>exact Bool.noConfusion h
theorem lI {x':AU} {n0:List AU} (h:BD P num op (.m8 x' n0)=true) : ∃ x xs ts,op = .call ⟨.value x,xs,ts⟩/\B6 x x'=true/\EX xs.toList n0=true:=by
 cases op with
 | call c =>
  obtain ⟨cl,xs,ts⟩:=c;cases cl with
  | builtin b=>cases b<;>exact Bool.noConfusion h
  | value g =>
   simp only[BD,Bool.and_eq_true]at h;exact ⟨g,xs,ts,rfl,h.1,h.2⟩
  | invoke=>exact Bool.noConfusion h
 | _=>exact Bool.noConfusion h
end
end Go.c6

namespace Go.c6
open Go.RowKit
def CI.x6:CI->AJ->AJ
 | .val _,o=>o
 | .new s b _,o=>o.put s ((o s).new b)
 | .vm s b _,o=>o.put s ((o s).new b)
 | .bn _ o',_=>o'
 | .o7 s x,o=>o.put s x
 | .tp s x _,o=>o.put s x
def CI.valOf:CI->AJ->AV
 | .val v,_=>v
 | .new s _ v,o=>v (o.g9 s)
 | .vm s _ v,o=>v (o.g9 s)
 | .bn v _,_=>v
 | .o7 _ _,_ => .g8 []
 | .tp _ _ v,_=>v
section
variable {B:Nat} {S:Nat->Prop} {w0:World} {m:M}
theorem JM {k:IntKind} {n:Int} {v:Value} (h:CV B S m (.int k n) v):v = .int k n:=by
 cases h with
 | ca h=>cases h with
  | one h=>cases h with
   | rd h=>cases h;rfl
theorem UI {b:Bool} {v:Value} (h:CV B S m (.bool b) v):v = .bool b:=by
 cases h with
 | ca h=>cases h with
  | one h=>cases h with
   | rd h=>cases h;rfl
theorem AeK {cs:List AV} {v:Value} (h:CV B S m (.agg cs) v) : ∃ vs:List Value,v = .agg vs.toArray/\CL B S m cs vs:=by
 cases h with
 | ca h=>cases h with
  | one h=>cases h with
   | rd h=>cases h
  | agg _ vs h=>exact ⟨vs,rfl,h⟩
theorem iS {cs:List AV} {v:Value} (h:CV B S m (.g8 cs) v) : ∃ vs:List Value,v = .tuple vs.toArray/\cs.length=vs.length /\ ∀ (j:Nat) (c:AV) (u:Value),cs[j]? = some c->vs[j]? = some u->CA B S m c u:=by
 cases h with
 | ca h=>cases h with
  | one h=>cases h with
   | rd h=>cases h
 | g8 _ vs hl h=>exact ⟨vs,rfl,hl,h⟩
theorem TK (k:IntKind) (n:Int):CV B S m (.int k n) (.int k n):= .ca (.one (.rd (.int k n)))
theorem dD (b:Bool):CV B S m (.bool b) (.bool b):= .ca (.one (.rd (.bool b)))
theorem zA:CV B S m (.g8 []) undef := .g8 [] [] rfl (λ j c v h=>by simp at h)
theorem bT {a:AV} {cs:List AV} {v:Value} (h:CV B S m a v) (hc:cellsOf a=some cs):CL B S m cs v.cells.toList:=by
 cases h with
 | any v=>simp [cellsOf]at hc
 | g8=>simp [cellsOf]at hc
 | ca h=>cases h with
  | agg cn vs h =>
   obtain rfl:cn=cs:=by simpa [cellsOf] using hc
   simpa [Value.cells] using h
  | fn=>simp [cellsOf]at hc
  | qh=>simp [cellsOf]at hc
  | one h =>
   have h1:v.cells.toList=[v]:=by
    cases h with
    | rd h=>cases h<;>rfl
    | _=>rfl
   have h2:cs=[a]:=by
    cases h with
    | rd h=>cases h<;>simp [cellsOf]at hc<;>exact hc.symm
    | _=>simp [cellsOf]at hc;exact hc.symm
   rw[h1,h2];refine ⟨rfl,λ j c u hj hu => ?_⟩;cases j with
   | zero=>simp at hj hu;subst hj hu;exact h
   | succ j=>simp at hj
theorem Aeg {cs:List AV} {vs:List Value} (h:CL B S m cs vs) : ∀ v∈vs,v.oneCell'=true:=by
 intro v hv;obtain ⟨j,hj,rfl⟩:=List.getElem_of_mem hv;have An:j<cs.length:=by rw[h.1];exact hj
 exact (h.2 j cs[j] vs[j] (zE An) (zE hj)).one
theorem Aeh {cs:List AV} {vs:List Value} (h:CL B S m cs vs) (off n:Nat):CL B S m ((cs.drop off).take n) ((vs.drop off).take n):=by
 refine ⟨by simp [h.1],λ j c v hj hv => ?_⟩;rw[List.getElem?_take]at hj hv;split at hj
 ·rename_i j9
  rw[if_pos j9]at hv;rw[List.getElem?_drop]at hj hv;exact h.2 _ c v hj hv
 ·cases hj
theorem tM {v:Value} {a:AV} (h:cF v a=true):CC B S m a v:=by
 unfold cF at h;split at h
 ·simp only[Bool.and_eq_true,beq_iff_eq]at h
  obtain ⟨rfl,rfl⟩:=h;exact .rd (.int _ _)
 ·obtain rfl:_=_:=by simpa using h
  exact .rd (.bool _)
 ·exact .nil
 ·rename_i s s'
  obtain rfl:s=s':=by
   have h':s.data.toList=s'.data.toList:=by simpa using h
   obtain ⟨⟨l⟩⟩:=s;obtain ⟨⟨l'⟩⟩:=s';simp only at h';rw[h']
  exact .rd (.str _)
 ·exact .rd .jk
 ·cases h
theorem WB : ∀ {vs:List Value} {cs:List AV},R6 vs cs=true->CL B S m cs vs
 | [],[],_=>⟨rfl,λ j c v h=>by simp at h⟩
 | v::r,c::l,h=>by
  simp only[R6,Bool.and_eq_true]at h;have ih:=WB (vs:=r) (cs:=l) h.2;refine ⟨by simp [ih.1],λ j c' v' hj hv => ?_⟩;cases j with
  | zero=>simp at hj hv;subst hj hv;exact tM h.1
  | succ j=>exact ih.2 j c' v' (by simpa using hj) (by simpa using hv)
 | [],_::_,h=>by simp [R6]at h
 | _::_,[],h=>by simp [R6]at h
theorem Af6 {v:Value} {a:AV} (h:jN v a=true):CV B S m a v:=by
 unfold jN at h;split at h
 ·rename_i cs l
  have:=WB (B:=B) (S:=S) (m:=m) h
  exact .ca (by simpa using CA.agg l cs.toList this)
 ·exact .ca (.one (tM h))
def CU (B:Nat) (S:Nat->Prop) (m:M) (ρ:AU->AV) (e:Operand->Value):Prop := ∀ x y,B6 x y=true->CV B S m (ρ y) (e x)
theorem Aku {T:Nat->AV} {a:Act} {ρ:AU->AV} (hρt : ∀ n,ρ (.t n)=T n) (Uy : ∀ v,ρ (.c v)=v) (h : ∀ i,CV B S m (T i) (a.tmps.getD i undef)):CU B S m ρ a.eval:=by
 intro x y pz;unfold B6 at pz;split at pz
 ·obtain rfl:_=_:=by simpa using pz
  rw[hρt];exact h _
 ·rw[Uy]
  exact Af6 pz
 ·obtain rfl:_=_:=by simpa using pz
  rw[Uy];exact .ca (.fn _ _ _ [] [] (λ_=>rfl) ⟨rfl,λ j c v h=>by simp at h⟩)
 ·cases pz
variable {P:Program} {num:Nat->Nat} {o:Oper} {a:Act} {ρ:AU->AV} {K:Act->World->Prop} {Q:Exit->Act->World->Prop}
theorem SW {w w':World} {u:Value} (h:(execOp a.eval o).run P w = .ok (.value u) w') (hk:K (a.put o.dst u) w'):o.wp P a w K Q:=by
 unfold Oper.wp;rw[h];exact hk
theorem AlL {w w':World} (h:(execOp a.eval o).run P w = .ok .skip w') (hk:K (a.put o.dst undef) w'):o.wp P a w K Q:=by
 unfold Oper.wp;rw[h];exact hk
def CY (B:Nat) (S:Nat->Prop) (w0:World) (P:Program) (o:Oper) (a:Act) (m:M) (E:CI):Prop :=
 ∀ (K:Act->World->Prop) (Q:Exit->Act->World->Prop),(∀ u m',m'.own=E.x6 m.own->BR B S w0 m'->DS B S m m'->CV B S m' (E.valOf m.own) u->K (a.put o.dst u) m'.w)->o.wp P a m.w K Q
theorem FC (hm:BR B S w0 m) {v:AV} {u:Value} (h:(execOp a.eval o).run P m.w = .ok (.value u) m.w) (hc:CV B S m v u):CY B S w0 P o a m (.val v) :=
 λ K Q hK=>SW h (hK u m rfl hm (DS.refl m) hc)
theorem AfG (hm:BR B S w0 m) (hs:CU B S m ρ a.eval) {y:AU} (h:BD P num o.op (.a6 y)=true):CY B S w0 P o a m (.val (ρ y)):=by
 obtain ⟨x,hx,he⟩:=AiA h;refine FC hm (u:=a.eval x) ?_ (hs x y he);rcases hx with hx|hx<;>simp [execOp,hx]
theorem AfM (hm:BR B S w0 m) {s z:Nat} (h:BD P num o.op (.y8 s z)=true):CY B S w0 P o a m (.vm s ⟨z,[]⟩ (λ t => .row s t z 0 0)):=by
 obtain ⟨hx,hz⟩:=AiG h;intro K Q hK;obtain ⟨h1,h2⟩:=Qb hm s z;refine SW (u := .slice none 0 0) (w':=m.w) ?_ (hK _ ⟨j5 m s none,m.own.put s ((m.own s).new ⟨z,[]⟩),m.w⟩ rfl h1 h2 ?_)
 ·rcases hx with hx|hx<;>simp [execOp,hx,Act.eval]
 ·refine .ca (.one (.row s (m.own.g9 s) z 0 0 none 0 ?_ (by omega) (Nat.le_refl _) (λ h=>by omega) λ b hb => ?_))
  ·show _<AJ.g9 _ s
   rw[L4];simp
  ·change AJ.get _ s _=some b at hb
   rw[HD,if_pos ⟨rfl,rfl⟩]at hb;obtain rfl:(⟨z,[]⟩:ES)=b:=by simpa using hb
   exact ⟨rfl,.inl ⟨rfl,rfl⟩⟩
theorem sK (hm:BR B S w0 m) (hs:CU B S m ρ a.eval) {c' a' b':AU} (h:BD P num o.op (.pick c' a' b')=true) {t:Bool} (hc:ρ c' = .bool t) :
  CY B S w0 P o a m (.val (if t then ρ a' else ρ b')):=by
 obtain ⟨c,x,y,k9,h1,h2,h3⟩:=AiB h;have v9:=UI (hc ▸ hs c c' h1);refine FC hm (u:=if t then a.eval x else a.eval y) ?_ ?_
 ·cases t<;>simp [execOp,k9,v9,asBool]
 ·cases t
  ·exact hs y b' h3
  ·exact hs x a' h2
theorem Akp (f:BinOp) (t:TypeId) (k k':IntKind) (x y:Int) (v:AV) (h:C4 f k x k' y=some v) (w:World) : ∃ u,(binOp f t (.int k x) (.int k' y)).run P w = .ok u w/\((∃ n,v = .int k n/\u = .int k n) \/ ∃ b,v = .bool b/\u = .bool b):=by
 cases f<;>simp only[C4]at h;case shl =>
  split at h
  ·cases h
  ·rename_i hy;simp at h;subst h
   exact ⟨_,by simp [binOp,Op.shift,hy],.inl ⟨_,rfl,rfl⟩⟩
 case shr =>
  split at h
  ·cases h
  ·rename_i hy;simp at h;subst h
   exact ⟨_,by simp [binOp,Op.shift,hy],.inl ⟨_,rfl,rfl⟩⟩
 case quo =>
  split at h
  ·rename_i hy;obtain ⟨rfl,hy⟩:=hy;simp at h;subst h
   exact ⟨_,by simp [binOp,Op.intDiv,hy],.inl ⟨_,rfl,rfl⟩⟩
  ·cases h
 case rem =>
  split at h
  ·rename_i hy;obtain ⟨rfl,hy⟩:=hy;simp at h;subst h
   exact ⟨_,by simp [binOp,Op.intDiv,hy],.inl ⟨_,rfl,rfl⟩⟩
  ·cases h
 case and|or|xor|andNot =>
  all_goals
   split at h
   ·rename_i hk;subst hk;obtain rfl:=Option.some.inj h
    exact ⟨_,by simp only[binOp,ne_eq,not_true_eq_false,if_false];rfl,.inl ⟨_,rfl,rfl⟩⟩
   ·cases h
 case add|sub|mul =>
  all_goals
   split at h
   ·rename_i hk;subst hk;obtain rfl:=Option.some.inj h
    exact ⟨_,by simp [binOp,Op.intArith],.inl ⟨_,rfl,rfl⟩⟩
   ·cases h
 all_goals
  split at h
  ·rename_i hk;subst hk;obtain rfl:=Option.some.inj h
   exact ⟨_,by simp [binOp,Op.intCmp],.inr ⟨_,rfl,rfl⟩⟩
  ·cases h
theorem Akj (f:BinOp) (t:TypeId) (x y:Operand) (k k':IntKind) (n n':Int) (w:World):(eqGuard f t x y (.int k n) (.int k' n')).run P w = .ok () w:=by
 unfold eqGuard;cases f<;>simp
theorem Akk (f:BinOp) (t:TypeId) (x y:Operand) (b b':Bool) (w:World):(eqGuard f t x y (.bool b) (.bool b')).run P w = .ok () w:=by
 unfold eqGuard;cases f<;>simp
theorem Afg (hm:BR B S w0 m) (hs:CU B S m ρ a.eval) {f:BinOp} {x' y':AU} (h:BD P num o.op (.bin f x' y')=true) {k k':IntKind} {n n':Int} {v:AV} (hx:ρ x' = .int k n) (hy:ρ y' = .int k' n') (hv:C4 f k n k' n'=some v) :
  CY B S w0 P o a m (.val v):=by
 obtain ⟨t,x,y,u,k9,h1,h2⟩:=Ail h;have ex:=JM (hx ▸ hs x x' h1);have ey:=JM (hy ▸ hs y y' h2);obtain ⟨r,hr,cr⟩:=Akp (P:=P) f t k k' n n' v hv m.w;refine FC hm (u:=r) ?_ ?_
 ·simp [execOp,k9,ex,ey,Akj,hr]
 ·rcases cr with ⟨q,rfl,rfl⟩|⟨q,rfl,rfl⟩
  ·exact TK _ _
  ·exact dD _
theorem Akm (t:TypeId) (b b':Bool) (hu:P.underlying t=some .bool) (w:World):(Op.equal t (.bool b) (.bool b')).run P w = .ok (b == b') w:=by
 have h : ∀ d:Nat,(Op.equalIn (d+1) t (.bool b) (.bool b')).run P w = .ok (b == b') w:=λ d=>by
  unfold Op.equalIn;rw[Sem.run_bind,run_underlying hu];rfl
 exact h 9999
theorem Aff (hm:BR B S w0 m) (hs:CU B S m ρ a.eval) {ne:Bool} {x' y':AU} (h:BD P num o.op (.beq ne x' y')=true) {b b':Bool} (hx:ρ x' = .bool b) (hy:ρ y' = .bool b') :
  CY B S w0 P o a m (.val (.bool (if ne then !(b == b') else b == b'))):=by
 obtain ⟨t,x,y,u,k9,hu,h1,h2⟩:=Aik h;have ex:=UI (hx ▸ hs x x' h1);have ey:=UI (hy ▸ hs y y' h2);refine FC hm (u := .bool (if ne then !(b == b') else b == b')) ?_ (dD _);cases ne<;>simp [execOp,k9,ex,ey,Akk,binOp,Akm t b b' hu]
theorem AfL (hm:BR B S w0 m) (hs:CU B S m ρ a.eval) {f:UnOp} {x':AU} (h:BD P num o.op (.un f x')=true) {v:AV} (hv:TV f (ρ x')=some v):CY B S w0 P o a m (.val v):=by
 obtain ⟨t,x,k9,h1⟩:=AiF h;have hx:=hs x x' h1;unfold TV at hv;split at hv
 ·rename_i k n hk
  have ex:=JM (hk ▸ hx);split at hv
  ·obtain rfl:_=v:=by simpa using hv
   exact FC hm (by simp [execOp,k9,ex,Op.unary,Op.intArith]) (TK _ _)
  ·obtain rfl:_=v:=by simpa using hv
   exact FC hm (by simp only[execOp,k9,ex,Op.unary];rfl) (TK _ _)
  ·cases hv
 ·rename_i b hk
  have ex:=UI (hk ▸ hx);split at hv
  ·obtain rfl:_=v:=by simpa using hv
   exact FC hm (by simp [execOp,k9,ex,Op.unary]) (dD _)
  ·cases hv
 ·cases hv
theorem Afq (hm:BR B S w0 m) (hs:CU B S m ρ a.eval) {k:IntKind} {x':AU} (h:BD P num o.op (.conv k x')=true) {k':IntKind} {n:Int} (hx:ρ x' = .int k' n):CY B S w0 P o a m (.val (.int k (k.wrap n))):=by
 obtain ⟨s,d,x,ds,k9,yl,hd,h1⟩:=Ait h;have ex:=JM (hx ▸ hs x x' h1);refine FC hm (u := .int k (k.wrap n)) ?_ (TK _ _);simp [execOp,k9,ex,convert,run_underlying yl,run_underlying hd,Conv.intToInt]
theorem Akn (t:TypeId) (a:Option Addr) (n c:Nat) {e:TypeId} (hu:P.underlying t=some (.slice e)) (w:World):(Op.equal t (.slice a n c) (.slice none 0 0)).run P w = .ok a.isNone w:=by
 have h : ∀ d:Nat,(Op.equalIn (d+1) t (.slice a n c) (.slice none 0 0)).run P w = .ok a.isNone w:=λ d=>by
  unfold Op.equalIn;rw[Sem.run_bind,run_underlying hu];cases a<;>rfl
 exact h 9999
theorem Akl (f:BinOp) (t:TypeId) (x y:Operand) (a b:Option Addr) (n c n' c':Nat) (w:World):(eqGuard f t x y (.slice a n c) (.slice b n' c')).run P w = .ok () w:=by
 unfold eqGuard;cases f<;>simp
theorem cA (hm:BR B S w0 m) (hs:CU B S m ρ a.eval) {ne:Bool} {x':AU} (h:BD P num o.op (.oy ne x')=true) {b:Bool} (hx : ∀ v,CV B S m (ρ x') v -> ∃ ad n c,v = .slice ad n c/\ad.isNone=b) :
  CY B S w0 P o a m (.val (.bool (xor b ne))):=by
 obtain ⟨t,x,u,e,k9,hu,h1⟩:=Aiw h;obtain ⟨ad,n,c,ex,hb⟩:=hx _ (hs x x' h1);refine FC hm (u := .bool (xor b ne)) ?_ (dD _);have e0:a.eval (.const (.slice none 0 0)) = .slice none 0 0:=rfl;cases ne<;>cases b<;>simp [execOp,k9,ex,e0,Akl,binOp,Akn t ad n c hu,hb]
theorem V8 {v:Value} (h:CV B S m .nil v):v = .slice none 0 0:=by
 cases h with
 | ca h=>cases h with
  | one h=>cases h with
   | rd h=>cases h
   | nil=>rfl
theorem rU {b:Bool} {v:Value} (h:CV B S m (.aj (.bool b)) v) : ∃ ad c,v = .slice ad 0 c/\ad.isNone=b:=by
 cases h with
 | ca h=>cases h with
  | one h=>cases h with
   | rd h=>cases h with
    | emp b a cap h=>exact ⟨a,cap,rfl,h⟩
theorem AeO {l:Bool} {e:List AV} {es:List (List AV)} {v:Value} (h:CV B S m (.sl l (e::es)) v) : ∃ ad n c,v = .slice ad n c/\ad.isNone=false:=by
 cases h with
 | ca h=>cases h with
  | one h=>cases h with
   | rd h=>cases h with
    | sl=>exact ⟨_,_,_,rfl,rfl⟩
theorem AeN {s t z off n:Nat} {v:Value} (h:CV B S m (.row s t z off (n+1)) v) : ∃ ad n c,v = .slice ad n c/\ad.isNone=false:=by
 cases h with
 | ca h=>cases h with
  | one h=>cases h with
   | rd h=>cases h
   | row _ _ _ _ _ a cap _ _ _ ha=>exact ⟨_,_,_,rfl,by have:=ha (by omega);cases a<;>simp_all⟩
theorem AfH (hm:BR B S w0 m) (hs:CU B S m ρ a.eval) {tb:List Nat} {x':AU} (h:BD P num o.op (.eo tb x')=true) {k:IntKind} {n:Int} {v:Nat} (hx:ρ x' = .int k n) (h0:0<=n) (hv:tb[n.toNat]? = some v) :
  CY B S w0 P o a m (.val (.int .u8 v)):=by
 obtain ⟨t,s,i,k9,hu,Eg,h1⟩:=AiC h;have ex:=JM (hx ▸ hs i x' h1);have hb : ∃ b:UInt8,s[n.toNat]? = some b/\b.toNat=v:=by
  rw[<-Eg,List.getElem?_map]at hv;cases hg:s.data.toList[n.toNat]? with
  | none=>simp [hg]at hv
  | some b =>
   simp only[hg,Option.map_some,Option.some.injEq]at hv;refine ⟨b,?_,hv⟩;have j9:n.toNat<s.size:=by
    have:=(zS hg).1
    simpa using this
   rw[getElem?_pos s n.toNat j9];congr 1;have:=(zS hg).2
   rw[<-this];rfl
 obtain ⟨b,ug,u5⟩:=hb;refine FC hm (u := .int .u8 v) ?_ (TK _ _);have e0:a.eval (.const (.string s)) = .string s:=rfl;simp [execOp,k9,ex,e0,Instr.index,asIntOf,run_underlying hu,h0,ug,u5]
theorem Ajw {x c:AV} {v:Value} (h:CV B S m x v) (hc:HZ x=some c):CC B S m c v:=by
 cases h with
 | any=>simp [HZ]at hc
 | g8=>simp [HZ]at hc
 | ca h=>cases h with
  | agg=>simp [HZ]at hc
  | fn=>simp [HZ]at hc
  | qh=>simp [HZ]at hc
  | one h =>
   have:c=x:=by
    cases h with
    | rd h=>cases h<;>simp [HZ]at hc<;>exact hc.symm
    | _=>simp [HZ]at hc;exact hc.symm
   subst this;exact h
theorem tJ (hs:CU B S m ρ a.eval) : ∀ {xs:List Operand} {n0:List AU} {cs:List AV},EX xs n0=true->n0.mapM (λ x=>HZ (ρ x))=some cs->CL B S m cs (xs.map a.eval)
 | [],[],cs,_,h=>by
  simp at h;subst h;exact ⟨rfl,λ j c v h=>by simp at h⟩
 | x::r,y::l,cs,h,hc=>by
  simp only[EX,Bool.and_eq_true]at h;simp only[List.mapM_cons,Option.bind_eq_bind,Option.pure_def]at hc;cases h1:HZ (ρ y) with
  | none=>simp [h1]at hc
  | some c =>
   cases h2:l.mapM (λ x=>HZ (ρ x)) with
   | none=>simp [h1,h2]at hc
   | some cn =>
    simp [h1,h2]at hc;subst hc;have ih:=tJ hs h.2 h2;refine ⟨by simpa using ih.1,λ j c' v hj hv => ?_⟩;cases j with
    | zero =>
     simp at hj hv;subst hj hv;exact Ajw (hs x y h.1) h1
    | succ j=>exact ih.2 j c' v (by simpa using hj) (by simpa using hv)
 | [],_::_,_,h,_=>by simp [EX]at h
 | _::_,[],_,h,_=>by simp [EX]at h
theorem AfD (hm:BR B S w0 m) (hs:CU B S m ρ a.eval) {p:Bool} {f:Nat} {n0:List AU} (h:BD P num o.op (.mf p f n0)=true) {cs:List AV} (hc:n0.mapM (λ x=>HZ (ρ x))=some cs) :
  CY B S w0 P o a m (.val (.fn (p&&cs.isEmpty) f (num f) cs)):=by
 obtain ⟨first,xs,k9,rfl,he⟩:=Aiz h;have n6:=tJ hs he hc;have dw:(xs.map a.eval)=(xs.toList.map a.eval).toArray:=by cases xs;simp
 refine FC hm (u := .func (.func (num f)) #[] (xs.toList.map a.eval).toArray) ?_ (.ca (.fn (p&&cs.isEmpty) f (num f) cs _ (λ h=>by simpa using (Bool.and_eq_true _ _ ▸ h:p=true/\cs.isEmpty=true).2) n6));simp [execOp,k9,Instr.makeFunc,dw]
end
end Go.c6

namespace Go.c6
open Go.RowKit
section
variable {B:Nat} {S:Nat->Prop} {w0:World} {m:M}
variable {P:Program} {num:Nat->Nat} {o:Oper} {a:Act} {ρ:AU->AV}
theorem V6 {cs:List AV} {vs:List Value} (h:CL B S m cs vs) {j:Nat} {c:AV} (hj:cs[j]? = some c) : ∃ u,vs[j]? = some u/\CC B S m c u:=by
 have j9:j<cs.length:=(zS hj).1;have ri:j<vs.length:=by rw[<-h.1];exact j9
 exact ⟨vs[j],zE ri,h.2 j c _ hj (zE ri)⟩
theorem Ajl {s:Nat} {b:ES} {w':World} {g:Nat}:CV B S ⟨j5 m s (some g),m.own.put s ((m.own s).new b),w'⟩ (.ptr s (m.own.g9 s) 0 0) (.pointer (some ⟨g,0,none⟩)):=by
 refine .ca (.one (.ptr s (m.own.g9 s) 0 0 ⟨g,0,none⟩ ?_ λ b' k8=>⟨g,?_,by simp⟩))
 ·show _<AJ.g9 _ s
  rw[L4];simp
 ·simp [j5]
theorem sJ (hm:BR B S w0 m) (s:Nat) (cs:List AV) (vs:Array Value) (e:TypeId) (hc:CL B S m cs vs.toList) (h:(execOp a.eval o).run P m.w = .ok (.value (.pointer (some ⟨m.w.heap.size,0,none⟩))) (m.w.alloc (.cells vs e))) :
  CY B S w0 P o a m (.new s ⟨cs.length,[cs]⟩ (λ t => .ptr s t 0 0)):=by
 intro K Q hK;obtain ⟨h1,h2⟩:=hJ hm s ⟨cs.length,[cs]⟩ vs e (by simp) (λ i cn hi j c hj=>by
  cases i with
  | zero =>
   obtain rfl:cs=cn:=by simpa using hi
   obtain ⟨u,hu,x8⟩:=V6 hc hj;exact ⟨u,by simpa using hu,x8⟩
  | succ i=>simp at hi)
 exact SW h (hK _ ⟨j5 m s (some m.w.heap.size),m.own.put s ((m.own s).new ⟨cs.length,[cs]⟩),m.w.alloc (.cells vs e)⟩ rfl h1 h2 Ajl)
theorem Afh (hm:BR B S w0 m) (hs:CU B S m ρ a.eval) {s:Nat} {x':AU} (h:BD P num o.op (.box s x')=true) {cs:List AV} (hc:cellsOf (ρ x')=some cs) :
  CY B S w0 P o a m (.new s ⟨cs.length,[cs]⟩ (λ t => .ptr s t 0 0)):=by
 obtain ⟨t,x,k9,h1⟩:=Aim h;exact sJ hm s cs (a.eval x).cells t (bT (hs x x' h1) hc) (by simp [execOp,k9,Instr.box,newVar,newRow])
theorem Afc (hm:BR B S w0 m) {s:Nat} {z:List AV} (h:BD P num o.op (.alloc s z)=true):CY B S w0 P o a m (.new s ⟨z.length,[z]⟩ (λ t => .ptr s t 0 0)):=by
 obtain ⟨t,k9,h1⟩:=Aij h;obtain ⟨i,v,hi,hz,he⟩:=oQ h1;exact sJ hm s z v.cells t (WB he) (by simp [execOp,k9,Instr.alloc,zeroValue,typeInfo,hi,hz,newVar,newRow])
theorem kP (off:Nat) : ∀ (vs:List Value) (k:Nat) (cells:Array Value),off+k+vs.length<=cells.size ->
  ((vs.zipIdx k).foldl (λ cs (x:Value × Nat)=>cs.setIfInBounds (off+x.2) x.1) cells).toList=cells.toList.take (off+k)++vs++cells.toList.drop (off+k+vs.length)
 | [],k,cells,_=>by simp
 | v::r,k,cells,h=>by
  simp only[List.length_cons]at h;rw[List.zipIdx_cons,List.foldl_cons,kP off r (k+1) _ (by simp;omega)];simp only[Array.toList_setIfInBounds,List.length_cons];apply List.ext_getElem?;intro q;have e1:(cells.toList.set (off+k) v).drop (off+(k+1)+r.length)=cells.toList.drop (off+k+(r.length+1)):=by
   rw[show off+(k+1)+r.length=off+k+(r.length+1) by omega];exact List.drop_set_of_lt (by omega)
  have e2:(cells.toList.set (off+k) v).take (off+(k+1))=cells.toList.take (off+k)++[v]:=by
   rw[show off+(k+1)=off+k+1 by omega,List.take_succ_eq_append_getElem (by simp;omega)];simp [List.take_set_of_le]
  rw[e1,e2];simp
theorem kH (place:Nat->Option (Nat × Nat)) (hs:CU B S m ρ a.eval) : ∀ (ps:List (Nat × Operand)) (ch:List (Nat × Nat × AU)) (cs cn:List AV) (vs:Array Value),U8 place ps ch=true->CL B S m cs vs.toList ->
  fill cs (ch.map λ p=>(p.1,p.2.1,ρ p.2.2))=some cn -> ∃ ak,Instr.fill place vs (ps.map λ p=>(p.1,a.eval p.2))=some ak/\CL B S m cn ak.toList
 | [],[],cs,cn,vs,_,hc,hf=>by
  simp [fill]at hf;subst hf;exact ⟨vs,rfl,hc⟩
 | (i,x)::r,(off,n,y)::l,cs,cn,vs,hp,hc,hf=>by
  simp only[U8,Bool.and_eq_true,beq_iff_eq]at hp;obtain ⟨⟨Kn,zf⟩,hp3⟩:=hp;simp only[List.map_cons,fill]at hf;cases hcell:cellsOf (ρ y) with
  | none=>simp [hcell]at hf
  | some us =>
   simp only[hcell]at hf;split at hf
   ·rename_i hn
    obtain ⟨hn1,Kh⟩:=hn;have dh:=bT (hs x y zf) hcell;have v7:(a.eval x).cells.size=n:=by rw[<-hn1,dh.1];simp
    have zd:off+(a.eval x).cells.size<=vs.size:=by rw[v7];have:=hc.1;simp at this;omega
    have qt:=kP off (a.eval x).cells.toList 0 vs (by simpa using zd);have ah:Instr.fill place vs (((i,x)::r).map λ p=>(p.1,a.eval p.2))=Instr.fill place ((a.eval x).cells.zipIdx.foldl (λ cs (c,j)=>cs.setIfInBounds (off+j) c) vs) (r.map λ p=>(p.1,a.eval p.2)):=by
     simp only[List.map_cons,Instr.fill,Kn];rw[if_neg (by simp;omega)]
    rw[ah];refine kH place hs r l (splice cs off us) cn _ hp3 ?_ hf;have hz:((a.eval x).cells.zipIdx.foldl (λ cs (c,j)=>cs.setIfInBounds (off+j) c) vs).toList=vs.toList.take off++(a.eval x).cells.toList++vs.toList.drop (off+(a.eval x).cells.toList.length):=by
     rw[<-Array.foldl_toList];simpa using qt
    rw[hz];unfold splice;refine ⟨?_,λ j c v hj hv => ?_⟩
    ·have:=hc.1;have:=dh.1;simp at *;omega
    ·have dj:=hc.1
     have du:=dh.1;simp only[Array.length_toList]at dj du;rw[List.getElem?_append]at hj hv;simp only[List.length_append,List.length_take,Array.length_toList]at hj hv;rw[List.getElem?_append]at hj hv;simp only[List.length_take,Array.length_toList]at hj hv;have eu:min off cs.length=off:=by omega
     have bh:min off vs.size=off:=by omega
     rw[eu]at hj;rw[bh]at hv;rw[<-du]at hv;split at hj
     ·rename_i h1
      rw[if_pos h1]at hv;split at hj
      ·rename_i h2
       rw[if_pos h2]at hv;rw[List.getElem?_take]at hj hv;rw[if_pos h2]at hj hv;exact hc.2 j c v hj hv
      ·rename_i h2
       rw[if_neg h2]at hv;exact dh.2 _ c v hj hv
     ·rename_i h1
      rw[if_neg h1]at hv;rw[List.getElem?_drop]at hj hv;exact hc.2 _ c v hj hv
   ·cases hf
 | [],_::_,_,_,_,hp,_,_=>by simp [U8]at hp
 | _::_,[],_,_,_,hp,_,_=>by simp [U8]at hp
theorem Afj (hm:BR B S w0 m) (hs:CU B S m ρ a.eval) {z:List AV} {ch:List (Nat × Nat × AU)} (h:BD P num o.op (.build z ch)=true) {cs:List AV} (hf:fill z (ch.map λ p=>(p.1,p.2.1,ρ p.2.2))=some cs) :
  CY B S w0 P o a m (.val (.agg cs)):=by
 obtain ⟨t,ps,k9,h1,h2⟩:=Aio h;obtain ⟨i,v,hi,hz,he⟩:=oQ h1;have key : ∃ ak,P.built t (ps.map λ p=>(p.1,a.eval p.2)).toList=some ak/\CL B S m cs ak.toList:=by
  unfold iG at h2;unfold Program.built;split at h2
  ·rename_i fs hu
   split at h2
   ·rename_i places hp
    obtain ⟨ak,h3,h4⟩:=kH _ hs ps.toList ch z cs v.cells h2 (WB he) hf;refine ⟨ak,?_,h4⟩;simp only[hi,hu,hz,hp,Array.toList_map];exact h3
   ·cases h2
  ·rename_i n e hu
   split at h2
   ·rename_i ie Jz
    obtain ⟨ak,h3,h4⟩:=kH _ hs ps.toList ch z cs v.cells h2 (WB he) hf;refine ⟨ak,?_,h4⟩;simp only[hi,hu,hz,Jz,Array.toList_map];exact h3
   ·cases h2
  ·cases h2
 obtain ⟨ak,h3,h4⟩:=key;refine FC hm (u := .agg ak) ?_ (.ca (by simpa using CA.agg cs ak.toList h4));simp only[execOp,k9,Sem.run_bind];rw[run_build m.w t _ ak h3];rfl
theorem wC (size:Nat) (hs:CU B S m ρ a.eval) : ∀ (ps:List (Nat × Operand)) (ch:List AU) (k:Nat) (es:List (List AV)) (vs:Array Value),UM k ps ch=true->ch.mapM (λ x=>cellsOf (ρ x))=some es->(∀ e∈es,e.length=size)->vs.size=(k+ch.length)*size ->
  ∃ ak,Instr.fill (λ i=>some (i*size,size)) vs (ps.map λ p=>(p.1,a.eval p.2))=some ak/\ak.size=vs.size/\(∀ q,q<k*size->ak[q]? = vs[q]?) /\ ∀ i cs,es[i]? = some cs -> ∀ j c,cs[j]? = some c -> ∃ u,ak[(k+i)*size+j]? = some u/\CC B S m c u
 | [],[],k,es,vs,_,gf,_,_=>by
  simp at gf;subst gf;exact ⟨vs,rfl,rfl,λ_ _=>rfl,λ i cs hi=>by simp at hi⟩
 | (i,x)::r,y::l,k,es,vs,he,gf,hz,hv=>by
  simp only[UM,Bool.and_eq_true,beq_iff_eq]at he;obtain ⟨⟨rfl,h1⟩,h2⟩:=he;simp only[List.mapM_cons,Option.bind_eq_bind,Option.pure_def]at gf;cases hcell:cellsOf (ρ y) with
  | none=>simp [hcell]at gf
  | some us =>
   cases bq:l.mapM (λ x=>cellsOf (ρ x)) with
   | none=>simp [hcell,bq]at gf
   | some es' =>
    simp [hcell,bq]at gf;subst gf;have dh:=bT (hs x y h1) hcell;have Uo:us.length=size:=hz us (by simp);have v7:(a.eval x).cells.size=size:=by rw[<-Uo,dh.1];simp
    simp only[List.length_cons]at hv;have hle:i*size+size<=vs.size:=by rw[hv,show i+(l.length+1)=i+1+l.length by omega,Nat.add_mul,Nat.add_mul];omega
    have qt:=kP (i*size) (a.eval x).cells.toList 0 vs (by simp [v7];omega);generalize Em:(a.eval x).cells.zipIdx.foldl (λ cs (c,j)=>cs.setIfInBounds (i*size+j) c) vs=Bi;have ic:Bi.toList=vs.toList.take (i*size)++(a.eval x).cells.toList++vs.toList.drop (i*size+size):=by
     rw[<-Em,<-Array.foldl_toList];simpa [v7] using qt
    have wq:Bi.size=vs.size:=by
     have:=congrArg List.length ic
     simp [v7]at this;omega
    obtain ⟨ak,h3,h4,h5,h6⟩:=wC size hs r l (i+1) es' Bi h2 bq (λ e he=>hz e (by simp [he])) (by rw[wq,hv];congr 1;omega);refine ⟨ak,?_,h4.trans wq,λ q hq => ?_,λ i' cs o6 j c hj => ?_⟩
    ·simp only[List.map_cons,Instr.fill]
     rw[if_neg (by simp [v7];omega),Em];exact h3
    ·rw[h5 q (by rw[Nat.add_mul];omega)]
     have:Bi.toList[q]? = vs.toList[q]? := by
      rw[ic,List.append_assoc,List.getElem?_append_left (by simp;omega),List.getElem?_take,if_pos hq]
     simpa using this
    ·cases i' with
     | zero =>
      obtain rfl:us=cs:=by simpa using o6
      obtain ⟨u,hu,x8⟩:=V6 dh hj;have di:j<size:=by rw[<-Uo];exact (zS hj).1
      refine ⟨u,?_,x8⟩;rw[Nat.add_zero,h5 _ (by rw[Nat.add_mul];omega)];have:Bi.toList[i*size+j]? = some u:=by
       rw[ic,List.append_assoc,List.getElem?_append_right (by simp;omega)];simp only[List.length_take,Array.length_toList,show min (i*size) vs.size=i*size by omega,show i*size+j-i*size=j by omega];rw[List.getElem?_append_left (by simp [v7];omega)];exact hu
      simpa using this
     | succ i' =>
      obtain ⟨u,hu,x8⟩:=h6 i' cs (by simpa using o6) j c hj;exact ⟨u,by rw[show i+(i'+1)=i+1+i' by omega];exact hu,x8⟩
 | [],_::_,_,_,_,he,_,_,_=>by simp [UM]at he
 | _::_,[],_,_,_,he,_,_,_=>by simp [UM]at he
theorem zL {s z n cap:Nat} {es:List (List AV)} {w':World} {g:Nat} {arr:Array Value} {e:TypeId} (hz:0<z) (hn:n<=cap) (hg:w'.heap[g]? = some (.cells arr e (0,0))) (hc:cap*z<=arr.size) :
  CV B S ⟨j5 m s (some g),m.own.put s ((m.own s).new ⟨z,es⟩),w'⟩ (.row s (m.own.g9 s) z 0 n) (.slice (some ⟨g,0,none⟩) n cap):=by
 refine .ca (.one (.row s (m.own.g9 s) z 0 n _ cap ?_ hz hn (λ_=>rfl) λ b' k8=>⟨?_,.inr ⟨g,arr,e,?_,by simp,hg,by simpa using hc⟩⟩))
 ·show _<AJ.g9 _ s
  rw[L4];simp
 ·change AJ.get _ s _=some b' at k8
  rw[HD,if_pos ⟨rfl,rfl⟩]at k8;obtain rfl:(⟨z,es⟩:ES)=b':=by simpa using k8
  rfl
 ·simp [j5]
theorem sN (hm:BR B S w0 m) (s z n cap:Nat) (es:List (List AV)) (vs:Array Value) (e:TypeId) (bk:0<z) (hn:n<=cap) (v7:cap*z<=vs.size) (hz : ∀ x∈es,x.length=z)
  (hc : ∀ i cs,es[i]? = some cs -> ∀ j c,cs[j]? = some c -> ∃ u,vs[i*z+j]? = some u/\CC B S m c u)
  (h:(execOp a.eval o).run P m.w = .ok (.value (.slice (some ⟨m.w.heap.size,0,none⟩) n cap)) (m.w.alloc (.cells vs e))) :
  CY B S w0 P o a m (.new s ⟨z,es⟩ (λ t => .row s t z 0 n)):=by
 intro K Q hK;obtain ⟨h1,h2⟩:=hJ hm s ⟨z,es⟩ vs e hz hc;exact SW h (hK _ ⟨j5 m s (some m.w.heap.size),m.own.put s ((m.own s).new ⟨z,es⟩),m.w.alloc (.cells vs e)⟩ rfl h1 h2 (zL bk hn (heap_alloc_new _ _) v7))
theorem Afi (hm:BR B S w0 m) (hs:CU B S m ρ a.eval) {s b8:Nat} {ch:List AU} (h:BD P num o.op (.b7 s b8 ch)=true) {es:List (List AV)} (gf:ch.mapM (λ x=>cellsOf (ρ x))=some es) (hz : ∀ e∈es,e.length=b8) :
  CY B S w0 P o a m (.new s ⟨b8,es⟩ (λ t => .row s t b8 0 es.length)):=by
 obtain ⟨t,n,ps,e,i,k9,hu,hi,v7,h0,hn,Ld,cp,hzero⟩:=Ain h;have hlen:es.length=n:=by
  rw[hn];clear h cp hzero hn;induction ch generalizing es with
  | nil=>simp at gf;subst gf;rfl
  | cons y l ih =>
   simp only[List.mapM_cons,Option.bind_eq_bind,Option.pure_def]at gf;cases hcell:cellsOf (ρ y) with
   | none=>simp [hcell]at gf
   | some us =>
    cases bq:l.mapM (λ x=>cellsOf (ρ x)) with
    | none=>simp [hcell,bq]at gf
    | some es' =>
     simp [hcell,bq]at gf;subst gf;simp [ih bq (λ e he=>hz e (by simp [he]))]
 obtain ⟨zc,vg⟩ : ∃ zc:Array Value,(n*b8=0/\zc = #[])\/(¬ n*b8=0 /\ ∃ z,i.zero=some z/\zc=z.cells):=by
  by_cases l9:n*b8=0
  ·exact ⟨#[],.inl ⟨l9,rfl⟩⟩
  ·rcases hzero with tv|⟨z,ic,ox⟩
   ·simp [tv]at l9
   ·exact ⟨z.cells,.inr ⟨l9,z,ic,rfl⟩⟩
 have Es:((Array.range (n*b8)).map (zc[· % zc.size]!)).size=n*b8:=by simp
 obtain ⟨ak,h3,h4,_,h6⟩:=wC b8 hs ps.toList ch 0 es _ cp gf hz (by rw[Es,hn];simp);have q9:(execOp a.eval o).run P m.w = .ok (.value (.slice (some ⟨m.w.heap.size,0,none⟩) n n)) (m.w.alloc (.cells ak e)):=by
  simp only[execOp,k9,Instr.buildSlice,Sem.run_bind,run_underlying hu,Result.andThen_ok,sizeOf,typeInfo,run_program,hi,Sem.run_pure,v7];simp only[show ¬ (n*b8>2^24) from by omega,if_false,Sem.run_bind,Sem.run_pure,Result.andThen_ok];rcases vg with ⟨tv,rfl⟩|⟨tv,z,ic,rfl⟩
  ·simp only[tv,if_true,Sem.run_bind,Sem.run_pure,Result.andThen_ok,Array.toList_map]
   rw[tv]at h3;rw[h3];rfl
  ·simp only[tv,if_false,Sem.run_bind,Sem.run_pure,Result.andThen_ok,Array.toList_map,zeroValue,typeInfo,run_program,hi,ic]
   rw[h3];rfl
 rw[hlen];exact sN hm s b8 n n es ak e (Nat.pos_of_ne_zero h0) (Nat.le_refl _) (by rw[h4,Es];exact Nat.le_refl _) hz (λ i cs o6 j c hj=>by simpa using h6 i cs o6 j c hj) q9
end
end Go.c6

namespace Go.c6
open Go.RowKit
section
variable {B:Nat} {S:Nat->Prop} {w0:World} {m:M}
variable {P:Program} {num:Nat->Nat} {o:Oper} {a:Act} {ρ:AU->AV}
theorem bS {x:AV} {v:Value} (h:CV B S m x v) (h1:x ≠ .any) (h2 : ∀ cs,x ≠ .agg cs) (h3 : ∀ cs,x ≠ .g8 cs) (h4 : ∀ p f g cs,x ≠ .fn p f g cs:=by intros;simp):CC B S m x v:=by
 cases h with
 | any=>exact absurd rfl h1
 | g8 as=>exact absurd rfl (h3 as)
 | ca h=>cases h with
  | one h=>exact h
  | agg cs=>exact absurd rfl (h2 cs)
  | fn p f g cs=>exact absurd rfl (h4 p f g cs)
  | qh f g cs=>exact absurd rfl (h4 true f g cs)
theorem YC {s t i j:Nat} {v:Value} (h:CV B S m (.ptr s t i j) v) : ∃ ad,v = .pointer (some ad)/\t<m.own.g9 s /\ ∀ b,m.own.get s t=some b -> ∃ g,m.ν s t=some g/\ad=⟨g,i*b.b8+j,none⟩:=by
 cases bS h (by simp) (by simp) (by simp) with
 | rd h=>cases h
 | ptr s t i j ad ht h'=>exact ⟨ad,rfl,ht,h'⟩
theorem iQ {cs:List AV} {v:Value} (h:CV B S m (.u6 cs) v) : ∃ (b o:Nat) (u:Nat->Value) (l:Bool),v = .pointer (some ⟨b,o,none⟩)/\(cs≠[]->safe B S m l b)/\(∀ j c,cs[j]? = some c->m.w.cell? ⟨b,o+j,none⟩=some (u j))/\(∀ j c,cs[j]? = some c->Rd m.w (safe B S m) c (u j)):=by
 cases bS h (by simp) (by simp) (by simp) with
 | rd h=>cases h
 | u6 _ b o u l h1 h2 h3=>exact ⟨b,o,u,l,rfl,h1,h2,h3⟩
theorem V9 {s t z off len:Nat} {v:Value} (h:CV B S m (.row s t z off len) v) : ∃ (ad:Option Addr) (cap:Nat),v = .slice ad len cap/\t<m.own.g9 s/\0<z/\len<=cap/\(0<len->ad.isSome=true) /\
  ∀ b,m.own.get s t=some b->b.b8=z/\((len=0/\cap=0) \/ ∃ g arr e,m.ν s t=some g/\ad=some ⟨g,off*z,none⟩/\m.w.heap[g]? = some (.cells arr e (0,0))/\(off+cap)*z<=arr.size):=by
 cases bS h (by simp) (by simp) (by simp) with
 | rd h=>cases h
 | row s t z off len ad cap ht bk ia ha h'=>exact ⟨ad,cap,rfl,ht,bk,ia,ha,h'⟩
theorem bU {l:Bool} {es:List (List AV)} {v:Value} (h:CV B S m (.sl l es) v):Rd m.w (safe B S m) (.sl l es) v:=by
 cases bS h (by simp) (by simp) (by simp) with
 | rd h=>exact h
theorem Aft (hm:BR B S w0 m) (hs:CU B S m ρ a.eval) {x':AU} {off:Nat} (h:BD P num o.op (.a5 x' off)=true) {s t i j:Nat} (hx:ρ x' = .ptr s t i j):CY B S w0 P o a m (.val (.ptr s t i (j+off))):=by
 obtain ⟨ty,x,f,fs,fd,inf,k9,h1,hu,hf,ho,hi,v7⟩:=xR h;obtain ⟨ad,hv,ht,hb⟩:=YC (hx ▸ hs x x' h1);refine FC hm (u := .pointer (some (ad.add off))) ?_ (.ca (.one (.ptr s t i (j+off) _ ht λ b k8 => ?_)))
 ·simp [execOp,k9,hv,Instr.fieldAt,run_underlying hu,hf,Instr.sureAddr,fieldPlace,sizeOf,typeInfo,hi,v7,ho]
 ·obtain ⟨g,hg,rfl⟩:=hb b k8
  exact ⟨g,hg,by rw[IK];simp;omega⟩
theorem Afs (hm:BR B S w0 m) (hs:CU B S m ρ a.eval) {x':AU} {off:Nat} (h:BD P num o.op (.a5 x' off)=true) {cs:List AV} (hx:ρ x' = .u6 cs):CY B S w0 P o a m (.val (.u6 (cs.drop off))):=by
 obtain ⟨ty,x,f,fs,fd,inf,k9,h1,hu,hf,ho,hi,v7⟩:=xR h;obtain ⟨b,ob,u,l,hv,hR,hc,hr⟩:=iQ (hx ▸ hs x x' h1);refine FC hm (u := .pointer (some ⟨b,ob+off,none⟩)) ?_ (.ca (.one (.u6 _ b (ob+off) (λ j=>u (off+j)) l (λ l9=>hR (λ e=>l9 (by simp [e]))) (λ j c hj => ?_) (λ j c hj => ?_))))
 ·simp [execOp,k9,hv,Instr.fieldAt,run_underlying hu,hf,Instr.sureAddr,fieldPlace,sizeOf,typeInfo,hi,v7,ho,IK]
 ·rw[List.getElem?_drop]at hj
  rw[Nat.add_assoc];exact hc _ c hj
 ·rw[List.getElem?_drop]at hj
  exact hr _ c hj
theorem dL {agg:Bool} {cs:List AV} {v:AV} (h:LQ agg cs=some v) {vs:List Value} (hc:CL B S m cs vs):CV B S m v (if agg then .agg vs.toArray else vs.getD 0 undef)/\(agg=false->vs.length=1):=by
 unfold LQ at h;cases agg with
 | true =>
  obtain rfl:AV.agg cs=v:=by simpa using h
  exact ⟨.ca (.agg cs vs hc),by simp⟩
 | false =>
  simp only[Bool.false_eq_true,if_false]at h;split at h
  ·rename_i c
   obtain rfl:c=v:=by simpa using h
   obtain ⟨u,hu,x8⟩:=V6 hc (j:=0) (c:=c) rfl;refine ⟨?_,λ_=>by rw[<-hc.1];rfl⟩;simp only[Bool.false_eq_true,if_false,List.getD,hu,Option.getD_some];exact .ca (.one x8)
  ·cases h
theorem Akq (t:TypeId) (agg:Bool) (inf:TypeInfo) (fx : ∀ w,(isAgg t).run P w = .ok agg w) (hi:P.info? t=some inf) (vs:List Value) (off n:Nat) (hn:inf.size=n) (hle:off+n<=vs.length) (h1:agg=false->n=1) (w:World) :
  (Go.part t vs.toArray off).run P w = .ok (if agg then .agg ((vs.drop off).take n).toArray else ((vs.drop off).take n).getD 0 undef) w:=by
 unfold Go.part;rw[Sem.run_bind,fx w];cases agg with
 | true=>simp [sizeOf,typeInfo,hi,hn,List.extract_eq_take_drop]
 | false =>
  have j9:off<vs.length:=by have:=h1 rfl;omega
  simp [j9,h1 rfl]
theorem Afu (hm:BR B S w0 m) (hs:CU B S m ρ a.eval) {x':AU} {off n:Nat} {agg:Bool} (h:BD P num o.op (.lq x' off n agg)=true) {cs ds:List AV} {v:AV} (hx:ρ x' = .agg cs) (hp:part cs off n=some ds) (hv:LQ agg ds=some v) :
  CY B S w0 P o a m (.val v):=by
 obtain ⟨ty,x,f,fs,fd,inf,k9,h1,hu,hf,ho,hi,v7,fx,h0⟩:=Aiv h;obtain ⟨vs,al,n6⟩:=AeK (hx ▸ hs x x' h1);unfold c6.part at hp;split at hp
 ·rename_i hle
  obtain rfl:(cs.drop off).take n=ds:=by simpa using hp
  obtain ⟨v9,jf⟩:=dL hv (Aeh n6 off n);have hl:=n6.1;have nj:agg=false->n=1:=λ e=>by have:=jf e;simp at this;omega
  refine FC hm ?_ v9;simp only[execOp,k9,Sem.run_bind,Instr.field,run_underlying hu,Result.andThen_ok,hf,al,asAgg,Sem.run_pure,ho];rw[Akq fd.type agg inf fx hi vs off n v7 (by omega) nj];rfl
 ·cases hp
theorem Afv (hm:BR B S w0 m) (hs:CU B S m ρ a.eval) {len b8:Nat} {x' i':AU} (h:BD P num o.op (.a8 (some len) b8 x' i')=true) {k:IntKind} {n:Int} {s t i0 j:Nat} (o6:ρ i' = .int k n) (hx:ρ x' = .ptr s t i0 j) (h0:0<=n) (hn:n<len) :
  CY B S w0 P o a m (.val (.ptr s t i0 (j+n.toNat*b8))):=by
 obtain ⟨ty,x,i,e,inf,k9,h1,h2,hi,v7,cr⟩:=cX h;rcases cr with ⟨oz,hl,hu,j9⟩|⟨hl,_⟩
 ·obtain rfl:len=oz:=by simpa using hl
  obtain ⟨ad,hv,ht,hb⟩:=YC (hx ▸ hs x x' h1);have te:=JM (o6 ▸ hs i i' h2);refine FC hm (u := .pointer (some (ad.add (n.toNat*b8)))) ?_ (.ca (.one (.ptr s t i0 (j+n.toNat*b8) _ ht λ b k8 => ?_)))
  ·simp [execOp,k9,hv,te,Instr.indexAt,asIntOf,run_underlying hu,Instr.sureAddr,sizeOf,typeInfo,hi,v7,h0,hn]
  ·obtain ⟨g,hg,rfl⟩:=hb b k8
   exact ⟨g,hg,by rw[IK];simp;omega⟩
 ·cases hl
theorem Afw (hm:BR B S w0 m) (hs:CU B S m ρ a.eval) {len b8:Nat} {x' i':AU} (h:BD P num o.op (.a8 (some len) b8 x' i')=true) {k:IntKind} {n:Int} {cs:List AV} (o6:ρ i' = .int k n) (hx:ρ x' = .u6 cs) (h0:0<=n) (hn:n<len) :
  CY B S w0 P o a m (.val (.u6 (cs.drop (n.toNat*b8)))):=by
 obtain ⟨ty,x,i,e,inf,k9,h1,h2,hi,v7,cr⟩:=cX h;rcases cr with ⟨oz,hl,hu,j9⟩|⟨hl,_⟩
 ·obtain rfl:len=oz:=by simpa using hl
  obtain ⟨b,ob,u,l,hv,hR,hc,hr⟩:=iQ (hx ▸ hs x x' h1);have te:=JM (o6 ▸ hs i i' h2);refine FC hm (u := .pointer (some ⟨b,ob+n.toNat*b8,none⟩)) ?_ (.ca (.one (.u6 _ b (ob+n.toNat*b8) (λ j=>u (n.toNat*b8+j)) l (λ l9=>hR (λ e=>l9 (by simp [e]))) (λ j c hj => ?_) (λ j c hj => ?_))))
  ·simp [execOp,k9,hv,te,Instr.indexAt,asIntOf,run_underlying hu,Instr.sureAddr,sizeOf,typeInfo,hi,v7,h0,hn,IK]
  ·rw[List.getElem?_drop]at hj
   rw[Nat.add_assoc];exact hc _ c hj
  ·rw[List.getElem?_drop]at hj
   exact hr _ c hj
 ·cases hl
theorem Mv (ty e:TypeId) (inf:TypeInfo) (hu:P.underlying ty=some (.slice e)) (hi:P.info? e=some inf) (ad:Addr) (len cap:Nat) (k:IntKind) (n:Int) (h0:0<=n) (hn:n<len) (w:World) :
  (Instr.indexAt ty (.slice (some ad) len cap) (.int k n)).run P w = .ok (.pointer (some (ad.add (n.toNat*inf.size)))) w:=by
 simp [Instr.indexAt,asIntOf,run_underlying hu,sizeOf,typeInfo,hi,h0,hn]
theorem Afx (hm:BR B S w0 m) (hs:CU B S m ρ a.eval) {b8:Nat} {x' i':AU} (h:BD P num o.op (.a8 none b8 x' i')=true) {k:IntKind} {n:Int} {s t z off len:Nat} (o6:ρ i' = .int k n) (hx:ρ x' = .row s t z off len) (h0:0<=n) (hn:n<len) (hz:z=b8) :
  CY B S w0 P o a m (.val (.ptr s t (off+n.toNat) 0)):=by
 obtain ⟨ty,x,i,e,inf,k9,h1,h2,hi,v7,cr⟩:=cX h;rcases cr with ⟨_,hl,_⟩|⟨_,hu,_⟩
 ·cases hl
 ·obtain ⟨ad,cap,hv,ht,bk,ia,ha,hb⟩:=V9 (hx ▸ hs x x' h1)
  have te:=JM (o6 ▸ hs i i' h2);obtain ⟨zz,rfl⟩:=Option.isSome_iff_exists.1 (ha (by omega));refine FC hm (u := .pointer (some (zz.add (n.toNat*b8)))) ?_ (.ca (.one (.ptr s t (off+n.toNat) 0 _ ht λ b k8 => ?_)))
  ·simp only[execOp,k9,hv,te,Sem.run_bind]
   rw[Mv ty e inf hu hi zz len cap k n h0 hn,v7];rfl
  ·obtain ⟨np,cr⟩:=hb b k8
   rcases cr with ⟨qz,_⟩|⟨g,arr,e',hg,jb,_,_⟩
   ·omega
   ·obtain rfl:zz=⟨g,off*z,none⟩:=by simpa using jb
    exact ⟨g,hg,by rw[IK,np,<-hz,Nat.add_mul];rfl⟩
theorem Afy (hm:BR B S w0 m) (hs:CU B S m ρ a.eval) {b8:Nat} {x' i':AU} (h:BD P num o.op (.a8 none b8 x' i')=true) {k:IntKind} {n:Int} {l:Bool} {es:List (List AV)} {cs:List AV} (o6:ρ i' = .int k n) (hx:ρ x' = .sl l es) (h0:0<=n) (hn:es[n.toNat]? = some cs) (hz:cs.length=b8) :
  CY B S w0 P o a m (.val (.u6 cs)):=by
 obtain ⟨ty,x,i,e,inf,k9,h1,h2,hi,v7,cr⟩:=cX h;rcases cr with ⟨_,hl,_⟩|⟨_,hu,_⟩
 ·cases hl
 ·have jt:=bU (hx ▸ hs x x' h1)
  have te:=JM (o6 ▸ hs i i' h2);have j9:n.toNat<es.length:=(zS hn).1;generalize al:a.eval x=v at jt;cases jt with
  | gu=>simp at j9
  | sl _ _ b ob v5 cap u l9 hp hR ag gq hc hr =>
   have Er:v5=b8:=by
    rw[<-hz];exact (gq cs (zM hn)).symm
   subst Er;refine FC hm (u := .pointer (some ⟨b,ob+n.toNat*v5,none⟩)) ?_ (.ca (.one (.u6 _ b (ob+n.toNat*v5) (u n.toNat) l (λ_=>hR) (λ j c hj => ?_) (λ j c hj=>hr _ cs hn j c hj))))
   ·simp only[execOp,k9,al,te,Sem.run_bind]
    rw[Mv ty e inf hu hi ⟨b,ob,none⟩ es.length cap k n h0 (by omega),v7,IK];rfl
   ·rw[Nat.add_assoc]
    exact hc _ cs hn j c hj
end
end Go.c6
