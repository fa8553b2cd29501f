/-
  A walk by computation: the code is run on a table of values and a list of what the call's own memory holds; it pauses where a number decides.
-/
import Derived.Test.YtplhdlbnneoobaaGreatB4
set_option linter.unusedSimpArgs false
set_option linter.unusedVariables false
set_option linter.unnecessarySimpa false
namespace Go.c4
inductive A3 where
 | bx (cs:List AV)
 | rw (z:Nat) (es:List (List AV))
 | bs (z:Nat) (es:List (List AV))
 | mx (rows:List (Option (Nat × List (List AV))))
 | hx (i:Nat) (v:AV) (rows:List (Option (Nat × List (List AV))))
 | vw (w:List Nat) (rows:List (Option (Nat × List (List AV))))
abbrev Mem:=List (Nat × Nat × A3)
def c7:Mem->Nat->Option (Nat × A3)
 | [],_=>none
 | (k,s,c)::r,j=>bif Nat.beq j k then some (s,c) else c7 r j
def c6 (M:Mem) (k t:Nat):Option A3:=match c7 M k with
 | none=>none
 | some (_,c)=>match t with
  | 0=>some c
  | i+1=>match c with
   | .mx rows=>match rows[i]? with
    | some (some (z,es))=>some (.rw z es)
    | _=>none
   | .hx _ _ rows=>match rows[i]? with
    | some (some (z,es))=>some (.rw z es)
    | _=>none
   | .vw _ rows=>match rows[i]? with
    | some (some (z,es))=>some (.rw z es)
    | _=>none
   | _=>none
def n0 (j:Nat):Mem->Mem
 | []=>[]
 | (k,s,c)::r=>bif Nat.beq j k then n0 j r else (k,s,c)::n0 j r
def tg:Tm->Nat->AV
 | [],_ => .any
 | (i,v)::r,j=>bif Nat.beq j i then v else tg r j
def bit (m i:Nat):Bool:=Nat.beq (Nat.land (Nat.shiftRight m i) 1) 1
def mask:Nat->List Nat->Nat
 | m,[]=>m
 | m,t::ts=>mask (Nat.lor m (Nat.shiftLeft 1 t)) ts
def qa (m:Nat):Tm->Tm
 | []=>[]
 | (i,v)::r=>bif bit m i then qa m r else (i,v)::qa (Nat.lor m (Nat.shiftLeft 1 i)) r
def fN (n:Nat) (K:Nat->Prop):Prop:=match n with
 | 0=>K 0
 | k+1=>K (k+1)
def nf:AV->Bool
 | .int _ _=>true | .bool _=>true | .z8 _=>true | .sl _ _=>true | .nil=>true
 | _=>false
def DQ:List AV->Bool
 | []=>true
 | v::r=>bif nf v then DQ r else false
def RO:List (List AV)->Bool
 | []=>true
 | v::r=>bif DQ v then RO r else false
def LV (s:Nat):AV->Bool
 | .row k _ _ _ _=>Nat.beq k s | .ptr k _ _ _=>Nat.beq k s
 | _=>false
def G2 (s:Nat):List AV->Bool
 | []=>false
 | v::r=>bif LV s v then true else G2 s r
def HY (s:Nat):List (List AV)->Bool
 | []=>false
 | v::r=>bif G2 s v then true else HY s r
def NF (s:Nat):AV->Bool
 | .agg cs=>G2 s cs
 | .fn _ _ _ cs=>G2 s cs
 | v=>LV s v
def QT (s:Nat):List AV->Bool
 | []=>false
 | v::r=>bif NF s v then true else QT s r
def LW (s:Nat):AV->Bool
 | .j4 vs=>QT s vs
 | v=>NF s v
def G3 (s:Nat):Tm->Bool
 | []=>false
 | (_,v)::r=>bif LW s v then true else G3 s r
def GA (s:Nat):A3->Bool
 | .bx cs=>G2 s cs
 | .rw _ _=>false
 | .bs _ es=>HY s es
 | .mx _=>false
 | .hx _ _ _=>false
 | .vw _ _=>false
def FV (s:Nat):Mem->Bool
 | []=>false
 | (k,_,c)::r=>bif Nat.beq s k then true else bif GA s c then true else FV s r
def MX (s:Nat):AV->Bool
 | .row k t _ _ _=>bif Nat.beq k s then (match t with|0=>false|_+1=>true) else false
 | .ptr k t _ _=>bif Nat.beq k s then (match t with|0=>false|_+1=>true) else false
 | _=>false
def MB (s:Nat):List AV->Bool
 | []=>false
 | v::r=>bif MX s v then true else MB s r
def OT (s:Nat):AV->Bool
 | .agg cs=>MB s cs
 | .fn _ _ _ cs=>MB s cs
 | v=>MX s v
def P6 (s:Nat):List AV->Bool
 | []=>false
 | v::r=>bif OT s v then true else P6 s r
def NU (s:Nat):AV->Bool
 | .j4 vs=>P6 s vs
 | v=>OT s v
def MC (s:Nat):Tm->Bool
 | []=>false
 | (_,v)::r=>bif NU s v then true else MC s r
def P7 (s:Nat):List (List AV)->Bool
 | []=>false
 | v::r=>bif MB s v then true else P7 s r
def MY (s:Nat):A3->Bool
 | .bx cs=>MB s cs
 | .bs _ es=>P7 s es
 | _=>false
def IQ (s:Nat):Mem->Bool
 | []=>false
 | (_,_,c)::r=>bif MY s c then true else IQ s r
def used (k:Nat) (tm:Tm) (M:Mem):Bool:=bif FV k M then true else G3 k tm
def U6 (tm:Tm) (M:Mem):List Nat->(Nat->Prop)->Prop
 | [],_=>False
 | k::r,K=>bif used k tm M then U6 tm M r K else K k
def EX (s:Nat) (tm:Tm) (M:Mem) (K:Nat->Prop):Prop:=U6 tm M [s,s+1000000,s+2000000,s+3000000] K
def fL:List AV->(List AV->Prop)->Prop
 | [],K=>K []
 | v::r,K=>fL r λ r'=>K (v::r')
def fV (v:AV) (K:AV->Prop):Prop:=match v with
 | .int k n=>K (.int k n) | .bool b=>K (.bool b) | .sl l es=>K (.sl l es) | .row s t z o n=>K (.row s t z o n)
 | .nil=>K .nil | .ptr s t i j=>K (.ptr s t i j) | .o7 cs=>K (.o7 cs) | .agg cs=>fL cs λ cs=>K (.agg cs)
 | .fn p f g cs=>fL cs λ cs=>K (.fn p f g cs)
 | .j4 vs=>fL vs λ vs=>K (.j4 vs) | .z8 c=>K (.z8 c) | .any=>False
def fC (v:AV) (K:List AV->Prop):Prop:=match v with
 | .agg cs=>fL cs K
 | .fn _ _ _ _=>False
 | .j4 _=>False
 | .any=>False
 | v=>fV v λ v=>K [v]
def fB (b:Bool) (K:Bool->Prop):Prop:=match b with
 | true=>K true
 | false=>K false
def fT:Tm->(Tm->Prop)->Prop
 | [],K=>K []
 | (i,v)::r,K=>fT r λ r'=>K ((i,v)::r')
def fM:Mem->(Mem->Prop)->Prop
 | [],K=>K []
 | (k,s,c)::r,K=>fM r λ r'=>K ((k,s,c)::r')
def fF (v:AV) (K:AV->Prop):Prop:=match v with
 | .int k n=>K (.int k n) | .bool b=>K (.bool b) | .sl l es=>K (.sl l es) | .row s t z o n=>K (.row s t z o n)
 | .nil=>K .nil | .ptr s t i j=>K (.ptr s t i j) | .z8 c=>K (.z8 c)|_=>False
def f2 (v:AV) (K:AV->Prop):Prop:=match v with
 | .int k n=>K (.int k n) | .bool b=>K (.bool b) | .sl l es=>K (.sl l es) | .row s t z o n=>K (.row s t z o n)
 | .nil=>K .nil | .ptr s t i j=>K (.ptr s t i j) | .z8 c=>K (.z8 c) | .agg cs=>fL cs λ cs=>K (.agg cs) | .fn p f g cs=>fL cs λ cs=>K (.fn p f g cs)|_=>False
def jv (agg:Bool) (ds:List AV) (K:AV->Prop):Prop:=match agg with
 | true=>K (.agg ds)
 | false=>match ds with
  | [c]=>fF c K
  | _=>False
def AF (p q A B:Prop):Prop:=(p->A)/\(q->B)
def AR (p A:Prop):Prop:=p/\A
def AB (op:BinOp) (k:IntKind) (a:Int) (k':IntKind) (b:Int) (K:AV->Prop):Prop := ∃ v,C6 op k a k' b=some v/\K v
def B7 (op:UnOp) (k:IntKind) (n:Int) (K:AV->Prop):Prop := ∃ v,OE op (.int k n)=some v/\K v
def AQ (k:IntKind) (n:Int) (K:Int->Prop):Prop:=K (k.wrap n)
def AY (es:List (List AV)) (a:Int) (z:Nat) (K:List AV->Prop):Prop:=0<=a /\ ∃ cs,es[a.toNat]? = some cs/\cs.length=z/\K cs
def A7 (es:List (List AV)) (i j n:Nat) (K:List AV->Prop):Prop := ∃ cs ds,es[i]? = some cs/\part cs j n=some ds/\K ds
def A6 (es:List (List AV)) (i j:Nat) (vs:List AV) (K:List (List AV)->Prop):Prop := ∃ cs,es[i]? = some cs/\j+vs.length<=cs.length/\K (es.set i (splice cs j vs))
def BS (a b:Int) (bytes:Nat) (zero:List AV) (K:List (List AV)->Nat->Prop):Prop:=(0<=a/\a<=b/\b*bytes<=D6/\b<=9223372036854775807)/\K (List.replicate a.toNat zero) a.toNat
def AP (es:List (List AV)) (K:Nat->Prop):Prop:=K es.length
def BO (es:List (List AV)) (len:Nat) (ys:List (List AV)) (z bytes:Nat) (K:List (List AV)->Nat->Prop):Prop :=
 len<=es.length/\(∀ e∈ys,e.length=z)/\(len+ys.length)*bytes<=D6/\len+ys.length<=9223372036854775807/\K (es.take len++ys) (len+ys.length)
def BW (ys:List (List AV)) (z bytes:Nat) (K:List (List AV)->Nat->Prop):Prop :=
 (∀ e∈ys,e.length=z)/\ys.length*bytes<=D6/\ys.length<=9223372036854775807/\K ys ys.length
def C0 (es:List (List AV)) (off len:Nat) (ys:List (List AV)) (z:Nat) (K:List (List AV)->Nat->Prop):Prop :=
 off+len<=es.length/\(∀ e∈ys,e.length=z)/\K (es.take off++ys.take len++es.drop (off+min ys.length len)) (min ys.length len)
def BL (es:List (List AV)) (off len:Nat) (K:List (List AV)->Prop):Prop:=off+len<=es.length/\K ((es.drop off).take len)
def E1:List AV->Bool
 | []=>true
 | v::r=>match v with
  | .int _ _=>E1 r | .bool _=>E1 r | .z8 _=>E1 r | .sl _ _=>E1 r
  | _=>false
def nl:AV->AV
 | .nil => .sl false []
 | v=>v
def J5:List AV->Bool
 | []=>true
 | v::r=>match v with
  | .int _ _=>J5 r | .bool _=>J5 r | .z8 _=>J5 r | .sl _ _=>J5 r | .nil=>J5 r
  | _=>false
def A0 (es:List (List AV)) (off len:Nat) (K:List (List AV)->Prop):Prop:=off+len<=es.length/\(∀ e∈es,J5 e=true)/\K (((es.drop off).take len).map λ e=>e.map nl)
def CD (rows:List (Option (Nat × List (List AV)))) (i:Nat) (K:Option (Nat × List (List AV))->Prop):Prop := ∃ r,rows[i]? = some r/\K r
def B2 (rows:List (Option (Nat × List (List AV)))) (i:Nat) (K:Nat->List (List AV)->Prop):Prop := ∃ z es,rows[i]? = some (some (z,es))/\K z es
def CH (rows:List (Option (Nat × List (List AV)))) (i z:Nat) (es:List (List AV)) (K:List (Option (Nat × List (List AV)))->Prop):Prop:=i<rows.length/\K (rows.set i (some (z,es)))
def CX (rows:List (Option (Nat × List (List AV)))) (i z:Nat) (es es':List (List AV)) (K:List (Option (Nat × List (List AV)))->Prop):Prop:=es'.length=es.length/\K (rows.set i (some (z,es')))
def CS (a b:Int) (bytes:Nat) (K:List (Option (Nat × List (List AV)))->Nat->Prop):Prop:=(0<=a/\a<=b/\b*bytes<=D6/\b<=9223372036854775807)/\K (List.replicate a.toNat none) a.toNat
def CK (rows:List (Option (Nat × List (List AV)))) (len:Nat) (r:Option (Nat × List (List AV))) (bytes:Nat) (K:List (Option (Nat × List (List AV)))->Nat->Prop):Prop :=
 len=rows.length/\(len+1)*bytes<=D6/\len+1<=9223372036854775807/\K (rows++[r]) (len+1)
def N8 (q:Bool):List (Option (Nat × List (List AV)))->List (List AV)
 | []=>[]
 | none::r=>[.sl false []]::N8 q r
 | some (_,es)::r=>[.sl q es]::N8 q r
def CI (q:Bool) (rows:List (Option (Nat × List (List AV)))) (off len:Nat) (K:List (List AV)->Prop):Prop :=
 off=0/\len=rows.length/\(∀ z es,some (z,es)∈rows -> ∀ e∈es,E1 e=true)/\K (N8 q rows)
def BH (lo hi:Option Int) (len:Nat) (K:Nat->Nat->Prop):Prop :=
 ∃ a h:Nat,(match lo with|none=>a=0|some x=>0<=x/\a=x.toNat)/\(match hi with|none=>h=len|some x=>0<=x/\x<=len/\h=x.toNat)/\a<=h/\K a h
def BZ (z:Nat) (es:List (List AV)) (lo hi:Option Int) (K:List (List AV)->Prop):Prop:=(∀ e∈es,e.length=z)/\BH lo hi es.length λ a h=>K ((es.take h).drop a)
def AC (L:Lib) (f:Nat) (vs:List AV) (K:AV->Prop):Prop := ∃ r,Ev L f vs r/\K r
def aR (n:Nat) (cs ds:List AV) (K:Bool->Prop):Prop := ∃ a b,G0 cs=some a/\G0 ds=some b/\a.length=n/\b.length=n/\K (decide (a=b))
def UT:List AV->Bool
 | []=>true
 | .int _ _::r=>UT r
 | _=>false
def B8 (L:Lib) (f:Nat) (vs:List AV) (K:Nat->List (List AV)->Nat->Prop):Prop := ∃ z es n,MR L f vs z es/\n=es.length/\K z es n
abbrev E4:=Nat->Nat->Nat × Nat
def A5 (σ:E4):AV->AV
 | .row k t z o n => .row (σ k t).1 (σ k t).2 z o n
 | .ptr k t i j => .ptr (σ k t).1 (σ k t).2 i j
 | v=>v
def BM (σ:E4):AV->AV
 | .agg cs => .agg (cs.map (A5 σ))
 | .fn p f g cs => .fn p f g (cs.map (A5 σ))
 | v=>A5 σ v
def A8 (σ:E4):AV->AV
 | .j4 vs => .j4 (vs.map (BM σ))
 | v=>BM σ v
def BR (σ:E4) (k:Nat):Nat->List (Option (Nat × List (List AV)))->List (List AV)
 | _,[]=>[]
 | i,none::r=>[.nil]::BR σ k (i+1) r
 | i,some (z,es)::r=>[.row (σ k (i+1)).1 (σ k (i+1)).2 z 0 es.length]::BR σ k (i+1) r
def A3.c9 (σ:E4) (k:Nat):A3->DE
 | .bx cs=>⟨cs.length,[cs.map (A5 σ)]⟩
 | .rw z es=>⟨z,es⟩
 | .bs z es=>⟨z,es.map λ cs=>cs.map (A5 σ)⟩
 | .mx rows=>⟨1,BR σ k 0 rows⟩
 | .hx i v rows=>⟨1,(BR σ k 0 rows).set i [v]⟩
 | .vw w rows=>⟨1,w.map λ t=>((BR σ k 0 rows)[t]?).getD []⟩
def A3.ij:A3->Bool
 | .bx _=>false
 | _=>true
def D8 (s:Nat):Bool:=Nat.blt s 900000
structure IP (σ:E4) (own:AG) (M:Mem):Prop where
 site : ∀ k s c,c7 M k=some (s,c)->(σ k 0).1=s
 c9 : ∀ k t c,c6 M k t=some c->(own (σ k t).1).c9 (σ k t).2=some (c.c9 σ k)
 old : ∀ k t c,c6 M k t=some c->(σ k t).2<(own (σ k t).1).g7
 inj : ∀ k t k' t' c c',c6 M k t=some c->c6 M k' t'=some c'->σ k t=σ k' t'->k=k'/\t=t'
 low : ∀ k t c,c6 M k t=some c->c.ij=true->D8 (σ k t).1=true
structure RX (σ:E4) (tm:Tm) (M:Mem) (st:St):Prop where
 tm : ∀ j,tg tm j = .any\/e9 st.tm j=A8 σ (tg tm j)
 sat:IP σ st.own M
def SQ (Q:Tm->Mem->Prop) (st:St):Prop := ∃ σ tm M,RX σ tm M st/\Q tm M
def AA (L:Lib) (k:List It) (tm:Tm) (M:Mem) (Q:Tm->Mem->Prop):Prop := ∀ σ st,RX σ tm M st->AK L k st (SQ Q)
def aQ (L:Lib) (l:List AI) (k:List It) (tm:Tm) (M:Mem) (Q:Tm->Mem->Prop):Prop := ∀ σ st,RX σ tm M st->AO L l k st (SQ Q)
def A4 (L:Lib) (f:Nat) (vs:List AV) (tm:Tm) (M:Mem) (K:AV->Mem->Prop):Prop :=
 ∀ σ own,IP σ own M -> ∃ r l8 σ' M',FP L f (vs.map (A8 σ)) own (A8 σ' r) l8/\IP σ' l8 M'/\(∀ j,A8 σ' (tg tm j)=A8 σ (tg tm j))/\K r M'
def oM (L:Lib) (s f key:Nat) (rest:List AV) (M:Mem) (K:AV->Mem->Prop):Prop :=
 ∃ (cells cb:List AV) (kd:IntKind) (n:Int),c7 M key=some (s,.bx cells)/\DQ cells=true/\DQ cb=true/\(∀ (t:Nat) (q:BU),q.c9 t=some ⟨cells.length,[cells]⟩->aY L s f (.ptr s t 0 0::rest) q (.int kd n) (q.m7 t (some ⟨cb.length,[cb]⟩)))/\K (.int kd n) ((key,s,.bx cb)::M)
def cv:AV->AV
 | .agg cs=>bif DQ cs then .agg cs else .any
 | .j4 [] => .j4 []
 | .o7 _ => .any
 | .fn p f g [] => .fn p f g []
 | v=>bif nf v then v else .any
def ex (tm:Tm):AM->AV
 | .t n=>tg tm n
 | .c v=>cv v
def kq (k k':IntKind):Bool:=decide (k=k')
def WK (op:BinOp) (k:IntKind) (a:Int) (k':IntKind) (b:Int) (K:AV->Prop):Prop:=match op with
 | .lss=>bif kq k k' then AF (a<b) (b<=a) (K (.bool true)) (K (.bool false)) else False
 | .leq=>bif kq k k' then AF (a<=b) (b<a) (K (.bool true)) (K (.bool false)) else False
 | .gtr=>bif kq k k' then AF (b<a) (a<=b) (K (.bool true)) (K (.bool false)) else False
 | .geq=>bif kq k k' then AF (b<=a) (a<b) (K (.bool true)) (K (.bool false)) else False
 | .eql=>bif kq k k' then AF (a=b) (a≠b) (K (.bool true)) (K (.bool false)) else False
 | .neq=>bif kq k k' then AF (a≠b) (a=b) (K (.bool true)) (K (.bool false)) else False
 | op=>AB op k a k' b K
noncomputable def PA (mx:Bool) (k:IntKind) (K:AV->Prop) (a:Int) (l:List AV):Prop :=
 List.rec (motive:=λ_=>Int->Prop) (λ a=>K (.int k a)) (λ v _ ih a=>match v with
  | .int _ b=>bif mx then AF (a<b) (b<=a) (ih b) (ih a) else AF (b<a) (a<=b) (ih b) (ih a)
  | _=>False) l a
def qy:List AV->Nat->AV
 | [],_ => .any
 | v::_,0=>v
 | _::r,n+1=>qy r n
def N3 (s:Nat):List Nat->Bool
 | []=>true
 | b9 => !(NB s b9)
def PD:List Nat->Bool
 | []=>true
 | s::r=>bif D8 s then false else PD r
def ZS (M:Mem) (k t:Nat) (K:Nat->List (List AV)->Prop):Prop:=match c7 M k with
 | some (_,c)=>match t with
  | 0=>match c with
   | .rw z es=>K z es
   | _=>False
  | i+1=>match c with
   | .mx rows=>B2 rows i K
   | _=>False
 | none=>False
def RQ (M:Mem) (v:AV) (K:List (List AV)->Prop):Prop:=match v with
 | .sl _ es=>K es
 | .nil=>K []
 | .z8 (.bool _)=>K []
 | .row key t z off len=>ZS M key t λ z' es=>bif Nat.beq z z' then BL es off len K else False
 | _=>False
def PS (q:Bool) (M:Mem) (b9:List Nat) (v:AV) (K:AV->Prop):Prop:=match v with
 | .int k n=>K (.int k n)
 | .bool b=>K (.bool b)
 | .sl l es=>K (.sl l es)
 | .z8 c=>K (.z8 c)
 | .nil=>K (.sl false [])
 | .row key t z off len=>match c7 M key with
  | some (s,.rw z' es)=>match t with
   | 0=>bif Nat.beq z z' then bif N3 s b9 then A0 es off len λ es=>K (.sl q es) else False else False
   | _+1=>False
  | some (_,.mx rows)=>match t with
   | 0=>False
   | i+1=>match b9 with
    | []=>B2 rows i λ z' es=>bif Nat.beq z z' then A0 es off len λ es=>K (.sl q es) else False
    | b::r=>bif PD (b::r) then B2 rows i λ z' es=>bif Nat.beq z z' then A0 es off len λ es=>K (.sl q es) else False else False
  | _=>False
 | _=>False
noncomputable def VN (q:Bool) (M:Mem) (b9:List Nat) (l:List AV):(List AV->Prop)->Prop :=
 List.rec (motive:=λ_=>(List AV->Prop)->Prop) (λ K=>K []) (λ v _ ih K=>PS q M b9 v λ v'=>ih λ r'=>K (v'::r')) l
noncomputable def Z4 (q:Bool) (M:Mem) (b9:List Nat) (l:List (List AV)):(List (List AV)->Prop)->Prop :=
 List.rec (motive:=λ_=>(List (List AV)->Prop)->Prop) (λ K=>K []) (λ v _ ih K=>VN q M b9 v λ v'=>ih λ r'=>K (v'::r')) l
noncomputable def SU (q:Bool) (M:Mem) (b9:List Nat) (v:AV) (K:AV->Prop):Prop:=match v with
 | .row key 0 z off len=>match c7 M key with
  | some (s,.bs z' es)=>bif Nat.beq z z' then bif N3 s b9 then bif Nat.beq off 0 then AR (len=es.length) (Z4 q M b9 es λ es=>K (.sl q es)) else False else False else False
  | some (_,.mx rows)=>match b9 with
   | []=>bif Nat.beq z 1 then CI q rows off len λ es=>K (.sl q es) else False
   | _::_=>False
  | _=>PS q M b9 (.row key 0 z off len) K
 | v=>PS q M b9 v K
noncomputable def Z5 (q:Bool) (M:Mem) (b9:List Nat) (l:List AV):(List AV->Prop)->Prop :=
 List.rec (motive:=λ_=>(List AV->Prop)->Prop) (λ K=>K []) (λ v _ ih K=>SU q M b9 v λ v'=>ih λ r'=>K (v'::r')) l
noncomputable def N9 (q:Bool) (M:Mem) (b9:List Nat) (v:AV) (K:AV->Prop):Prop:=match v with
 | .agg cs=>Z5 q M b9 cs λ cs=>K (.agg cs)
 | v=>SU q M b9 v K
noncomputable def VP (tm:Tm) (M:Mem) (b9:List Nat) (l:List AM):(List AV->Prop)->Prop :=
 List.rec (motive:=λ_=>(List AV->Prop)->Prop) (λ K=>K []) (λ x _ ih K=>N9 true M b9 (ex tm x) λ v=>ih λ vs=>K (v::vs)) l
noncomputable def VO (M:Mem) (b9:List Nat) (v:AV) (K:AV->Prop):Prop:=match v with
 | .nil=>K .nil
 | v=>N9 true M b9 v K
noncomputable def Z6 (tm:Tm) (M:Mem) (b9:List Nat) (l:List AM):(List AV->Prop)->Prop :=
 List.rec (motive:=λ_=>(List AV->Prop)->Prop) (λ K=>K []) (λ x _ ih K=>VO M b9 (ex tm x) λ v=>ih λ vs=>K (v::vs)) l
noncomputable def QF (tm:Tm) (l:List AM):(List AV->Prop)->Prop :=
 List.rec (motive:=λ_=>(List AV->Prop)->Prop) (λ K=>K []) (λ x _ ih K=>fV (ex tm x) λ v=>ih λ vs=>K (v::vs)) l
def U4 (tm:Tm) (o:Option AM) (K:Option Int->Prop):Prop:=match o with
 | none=>K none
 | some x=>match ex tm x with
  | .int _ n=>K (some n)
  | _=>False
def R8 (es:List (List AV)) (K:Nat->Prop):Prop:=match es with
 | []=>K 0
 | [_]=>K 1
 | [_,_]=>K 2
 | [_,_,_]=>K 3
 | [_,_,_,_]=>K 4
 | es=>K es.length
noncomputable def WN (tm:Tm) (z:Nat) (l:List AM):(List (List AV)->Prop)->Prop :=
 List.rec (motive:=λ_=>(List (List AV)->Prop)->Prop) (λ K=>K []) (λ x _ ih K=>fC (ex tm x) λ cs=>bif Nat.beq cs.length z then ih λ es=>K (cs::es) else False) l
noncomputable def X6 (tm:Tm) (ps:List (Nat × Nat × AM)):List AV->(List AV->Prop)->Prop :=
 List.rec (motive:=λ_=>List AV->(List AV->Prop)->Prop) (λ cells K=>K cells) (λ p _ ih cells K=>fC (ex tm p.2.2) λ vs=>bif Nat.beq vs.length p.2.1 then bif Nat.ble (p.1+p.2.1) cells.length then fL (splice cells p.1 vs) λ cells=>ih cells K else False else False) ps
def NY (tm:Tm):List AM->List AV
 | []=>[]
 | x::r=>ex tm x::NY tm r
def ON (tb:List Nat) (n:Int) (K:Nat->Prop):Prop:=0<=n /\ ∃ v,tb[n.toNat]? = some v/\K v
noncomputable def Y5 (tm:Tm) (l:List AM):(List AV->Prop)->Prop :=
 List.rec (motive:=λ_=>(List AV->Prop)->Prop) (λ K=>K []) (λ x _ ih K=>fF (ex tm x) λ v=>ih λ cs=>K (v::cs)) l
def ZA:AV->Bool
 | .agg _=>false | .fn _ _ _ _=>false | .j4 _=>false | .any=>false
 | _=>true
def SF:List AV->Bool
 | []=>true
 | v::r=>bif ZA v then SF r else false
def OP (M:Mem) (v:AV):Option (Nat × Option (Nat × Nat × Nat)):=match v with
 | .row ky 0 1 0 1=>match c7 M ky with
  | some (_,.bs 1 [[.row k2 0 z 0 n]])=>some (ky,some (k2,z,n))
  | some (_,.rw 1 [[.nil]])=>some (ky,none)
  | _=>none
 | _=>none
def R7 (z:Nat):List (List AV)->Bool
 | []=>true
 | e::r=>bif Nat.beq e.length z then R7 z r else false
def WG (tm:Tm) (M:Mem) (s z bytes:Nat) (x y:AM) (K:AV->Mem->Prop):Prop:=match ex tm y with
 | .row ky 0 zy 0 ny=>match c7 M ky with
  | some (_,.bs z2 fg)=>bif Nat.beq zy z then bif Nat.beq z2 z then bif Nat.beq ny fg.length then bif R7 z fg then (match ex tm x with
   | .nil=>bif D8 s then R8 fg λ n=>AR (n*bytes<=140737488355328/\n<=9223372036854775807) (EX s tm M λ k=>K (.row k 0 z 0 n) ((k,s,.bs z fg)::M)) else False
   | .row kx 0 zx 0 len=>bif Nat.beq zx z then (match c7 M kx with
    | some (s',.bs z1 ox)=>bif Nat.beq z1 z then bif Nat.beq len ox.length then fM (n0 kx M) λ M'=>R8 (ox++fg) λ n=>AR (n*bytes<=140737488355328/\n<=9223372036854775807) (EX s tm M λ k=>K (.row k 0 z 0 n) ((k,s',.bs z (ox++fg))::M')) else False else False
    | _=>False) else False
   | _=>False) else False else False else False else False
  | _=>False
 | _=>False
def aF (tm:Tm) (M:Mem) (K:AV->Mem->Prop) (n:Nat) (x v:AM):Prop:=match ex tm x with
 | .ptr key t i j=>fC (ex tm v) λ vs=>bif Nat.beq vs.length n then (match c7 M key with
  | some (s,c)=>match t with
   | 0=>match c with
    | .bx cs=>bif Nat.beq i 0 then bif Nat.ble (j+vs.length) cs.length then fL (splice cs j vs) λ bl=>K (.j4 []) ((key,s,.bx bl)::M) else False else False
    | .rw z es=>bif DQ vs then A6 es i j vs λ es'=>K (.j4 []) ((key,s,.rw z es')::M) else False
    | .bs _ _=>False
    | .mx rows=>match vs with
     | [.row q8 0 z 0 m]=>bif Nat.beq key q8 then False else bif MC key tm then False else bif IQ key M then False else bif Nat.beq j 0 then (match c7 M q8 with
      | some (_,.rw z' es)=>bif Nat.beq z z' then fM (n0 q8 M) λ M'=>AR (m=es.length) (CH rows i z es λ bu=>K (.j4 []) ((key,s,.mx bu)::M')) else False
      | _=>False) else False
     | [.row q8 (t2+1) z 0 m]=>bif Nat.beq key q8 then bif Nat.beq j 0 then B2 rows t2 λ z' es=>bif Nat.beq z z' then AR (m=es.length/\i<rows.length) (K (.j4 []) ((key,s,.vw ((List.range rows.length).set i t2) rows)::M)) else False else False else False
     | _=>False
    | .hx i0 _ rows=>match vs with
     | [.row q8 0 z 0 m]=>bif Nat.beq key q8 then False else bif MC key tm then False else bif IQ key M then False else bif Nat.beq j 0 then (match c7 M q8 with
      | some (_,.rw z' es)=>bif Nat.beq z z' then fM (n0 q8 M) λ M'=>AR (i=i0/\m=es.length) (CH rows i z es λ bu=>K (.j4 []) ((key,s,.mx bu)::M')) else False
      | _=>False) else False
     | _=>False
    | .vw w rows=>match vs with
     | [.row q8 (t2+1) z 0 m]=>bif Nat.beq key q8 then bif Nat.beq j 0 then B2 rows t2 λ z' es=>bif Nat.beq z z' then AR (m=es.length/\i<w.length /\ ∀ t∈w,t<rows.length) (K (.j4 []) ((key,s,.vw (w.set i t2) rows)::M)) else False else False else False
     | _=>False
   | i'+1=>match c with
    | .mx rows=>bif DQ vs then B2 rows i' λ z es=>A6 es i j vs λ es'=>CX rows i' z es es' λ bu=>K (.j4 []) ((key,s,.mx bu)::M) else False
    | _=>False
  | none=>False) else False
 | _=>False
def BI (r:AV) (K:AV->Prop):Prop:=(G8 r\/OH r)/\K (JL r)
noncomputable def XE (L:Lib) (tm:Tm) (M:Mem) (b9:List Nat) (K:AV->Mem->Prop):DG->Prop
 | .b7 x=>fV (ex tm x) λ v=>K v M
 | .y6 s z=>bif D8 s then EX s tm M λ k=>K (.row k 0 z 0 0) ((k,s,.rw z [])::M) else False
 | .pick c a b=>match ex tm c with
  | .bool true=>fV (ex tm a) λ v=>K v M
  | .bool false=>fV (ex tm b) λ v=>K v M
  | _=>False
 | .bin op x y=>match ex tm x,ex tm y with
  | .int k a,.int k' b=>WK op k a k' b λ v=>K v M
  | _,_=>False
 | .mf ne n x y=>match ex tm x,ex tm y with
  | .agg cs,.agg ds=>aR n cs ds λ b=>fB (bif ne then !b else b) λ c=>K (.bool c) M
  | _,_=>False
 | .beq ne x y=>match ex tm x,ex tm y with
  | .bool a,.bool b=>fB (bif ne then !(a == b) else a == b) λ c=>K (.bool c) M
  | _,_=>False
 | .un op x=>match ex tm x with
  | .int k n=>B7 op k n λ v=>K v M
  | .bool b=>match op with
   | .not=>fB (!b) λ c=>K (.bool c) M
   | _=>False
  | _=>False
 | .conv k x=>match ex tm x with
  | .int _ n=>AQ k n λ v=>K (.int k v) M
  | _=>False
 | .box s x=>fC (ex tm x) λ cs=>EX s tm M λ k=>K (.ptr k 0 0 0) ((k,s,.bx cs)::M)
 | .alloc s zero=>bif DQ zero then (EX s tm M λ k=>K (.ptr k 0 0 0) ((k,s,.bx zero)::M)) else False
 | .build zero parts=>bif DQ zero then X6 tm parts zero λ cs=>K (.agg cs) M else False
 | .e8 s z parts=>bif D8 s then WN tm z parts λ es=>R8 es λ n=>EX s tm M λ k=>bif RO es then K (.row k 0 z 0 n) ((k,s,.rw z es)::M) else K (.row k 0 z 0 n) ((k,s,.bs z es)::M) else False
 | .a6 x off=>match ex tm x with
  | .ptr key t i j=>K (.ptr key t i (j+off)) M
  | .o7 cs=>fL (cs.drop off) λ cs=>K (.o7 cs) M
  | _=>False
 | .iq x off n agg=>match ex tm x with
  | .agg cs=>match part cs off n with
   | some ds=>fL ds λ ds=>jv agg ds λ v=>K v M
   | none=>False
  | _=>False
 | .a8 arr z x i=>match ex tm i with
  | .int _ n=>match arr,ex tm x with
   | some len,.ptr key t i' j=>AR (0<=n/\n<(len:Int)) (K (.ptr key t i' (j+n.toNat*z)) M)
   | some len,.o7 cs=>AR (0<=n/\n<(len:Int)) (fL (cs.drop (n.toNat*z)) λ cs=>K (.o7 cs) M)
   | none,.row key t z' off len=>bif Nat.beq z' z then AR (0<=n/\n<(len:Int)) (K (.ptr key t (off+n.toNat) 0) M) else False
   | none,.sl _ es=>AY es n z λ cs=>K (.o7 cs) M
   | _,_=>False
  | _=>False
 | .idx len z agg x i=>match ex tm i,ex tm x with
  | .int _ n,.agg cs=>AR (0<=n/\n<(len:Int)) (match part cs (n.toNat*z) z with
   | some ds=>fL ds λ ds=>jv agg ds λ v=>K v M
   | none=>False)
  | _,_=>False
 | .ld agg n x=>match ex tm x with
  | .ptr key t i j=>match c7 M key with
   | some (s,c)=>match t with
    | 0=>bif N3 s b9 then (match c with
     | .bx cs=>bif Nat.beq i 0 then (match part cs j n with
      | some ds=>fL ds λ ds=>jv agg ds λ v=>K v M
      | none=>False) else False
     | .rw _ es=>A7 es i j n λ ds=>fL ds λ ds=>bif DQ ds then jv agg ds λ v=>K v M else False
     | .bs _ es=>(match es[i]? with
      | some cs=>(match part cs j n with
       | some ds=>fL ds λ ds=>jv agg ds λ v=>K v M
       | none=>False)
      | none=>False)
     | .mx rows=>bif Nat.beq j 0 then bif Nat.beq n 1 then CD rows i λ r=>match r with
      | some (z,es)=>jv agg [.row key (i+1) z 0 es.length] λ v=>K v M
      | none=>jv agg [.nil] λ v=>K v M else False else False
     | .hx _ _ _=>False
     | .vw _ _=>False) else False
    | i'+1=>match c,b9 with
     | .mx rows,[]=>B2 rows i' λ_ es=>A7 es i j n λ ds=>fL ds λ ds=>bif DQ ds then jv agg ds λ v=>K v M else False
     | .mx rows,b::r=>bif PD (b::r) then B2 rows i' λ_ es=>A7 es i j n λ ds=>fL ds λ ds=>bif DQ ds then jv agg ds λ v=>K v M else False else False
     | _,_=>False
   | none=>False
  | .o7 cs=>match part cs 0 n with
   | some ds=>fL ds λ ds=>bif DQ ds then jv agg ds λ v=>K v M else False
   | none=>False
  | _=>False
 | .st n x v=>aF tm M K n x v
 | .jc s n x v=>match ex tm x with
  | .ptr key 0 _ _=>(match c7 M key with
   | some (s',_)=>bif Nat.beq s' s then aF tm M K n x v else False
   | none=>False)
  | _=>False
 | .k9 f xs=>QF tm xs λ vs=>bif vs.all dq then AC L f (vs.map px) λ r=>BI r λ r=>K r M else False
 | .mk s z bytes zero l c=>match ex tm l,ex tm c with
  | .int _ a,.int _ b=>bif Nat.beq zero.length z then bif DQ zero then match zero with
   | [.nil]=>bif D8 s then CS a b bytes λ rows n=>EX s tm M λ k=>K (.row k 0 z 0 n) ((k,s,.mx rows)::M) else False
   | zero=>bif D8 s then (BS a b bytes zero λ es n=>EX s tm M λ k=>K (.row k 0 z 0 n) ((k,s,.rw z es)::M)) else False else False else False
  | _,_=>False
 | .bz z x lo hi=>U4 tm lo λ lo=>U4 tm hi λ hi=>match ex tm x with
  | .sl l es=>BZ z es lo hi λ es=>K (.sl l es) M
  | .row key t z' off len=>bif Nat.beq z' z then BH lo hi len λ a h=>K (.row key t z (off+a) (h-a)) M else False
  | .nil=>(match lo,hi with
   | none,none=>K .nil M
   | some a,none=>AR (a=0) (K .nil M)
   | none,some h=>AR (h=0) (K .nil M)
   | some a,some h=>AR (a=0/\h=0) (K .nil M))
  | _=>False
 | .ext x i=>match ex tm x with
  | .j4 vs=>f2 (qy vs i) λ v=>K v M
  | _=>False
 | .len x=>match ex tm x with
  | .sl _ es=>AP es λ n=>K (.int .i64 (n:Int)) M
  | .nil=>K (.int .i64 0) M
  | .row _ _ _ _ n=>K (.int .i64 (n:Int)) M
  | _=>False
 | .mm mx xs=>match NY tm xs with
  | .int k a::r=>PA mx k (λ v=>K v M) a r
  | _=>False
 | .app s z bytes x y=>bif Nat.ble 800000 s then WG tm M s z bytes x y K else (
  match OP M (ex tm y) with
  | some (ky,some (k2,z2,n2))=>match ex tm x with
   | .row key 0 z' off len=>bif Nat.beq off 0 then bif Nat.beq z' 1 then bif Nat.beq z 1 then bif Nat.beq key k2 then False else bif Nat.beq key ky then False else bif Nat.beq k2 ky then False else (match c7 M k2 with
    | some (_,.rw z3 es)=>bif Nat.beq z2 z3 then (match c7 M key with
     | some (s',.mx rows)=>fM (n0 key (n0 k2 (n0 ky M))) λ M'=>AR (n2=es.length) (CK rows len (some (z2,es)) bytes λ bu n=>EX s tm M λ k=>K (.row k 0 z 0 n) ((k,s',.mx bu)::M'))
     | _=>False) else False
    | _=>False) else False else False else False
   | .nil=>bif D8 s then bif Nat.beq z 1 then (match c7 M k2 with
    | some (_,.rw z3 es)=>bif Nat.beq z2 z3 then fM (n0 k2 M) λ M'=>AR (n2=es.length/\bytes<=140737488355328) (EX s tm M λ k=>K (.row k 0 z 0 1) ((k,s,.mx [some (z2,es)])::M')) else False
    | _=>False) else False else False
   | _=>False
  | some (ky,none)=>match ex tm x with
   | .row key 0 z' off len=>bif Nat.beq off 0 then bif Nat.beq z' 1 then bif Nat.beq z 1 then bif Nat.beq key ky then False else (match c7 M key with
     | some (s',.mx rows)=>fM (n0 key M) λ M'=>CK rows len none bytes λ bu n=>EX s tm M λ k=>K (.row k 0 z 0 n) ((k,s',.mx bu)::M')
     | _=>False) else False else False else False
   | .nil=>bif D8 s then bif Nat.beq z 1 then AR (bytes<=140737488355328) (EX s tm M λ k=>K (.row k 0 z 0 1) ((k,s,.mx [none])::M)) else False else False
   | _=>False
  | none=>RQ M (ex tm y) λ ys=>match ex tm x with
   | .row key 0 z' off len=>bif Nat.beq off 0 then bif Nat.beq z' z then (match c7 M key with
    | some (s',.rw w8 es)=>bif Nat.beq w8 z then fM (n0 key M) λ M'=>(BO es len ys z bytes λ es' n=>EX s tm M λ k=>K (.row k 0 z 0 n) ((k,s',.rw z es')::M')) else False
    | _=>False) else False else False
   | .row key (i+1) z' off len=>bif Nat.beq off 0 then bif Nat.beq z' z then (match c7 M key with
    | some (sk,.mx rows)=>fM (n0 key M) λ M'=>B2 rows i λ w8 es=>bif Nat.beq w8 z then (BO es len ys z bytes λ es' n => ∀ s' v,EX s tm M λ k=>K (.row k 0 z 0 n) ((k,s',.rw z es')::(key,sk,.hx i v (rows.set i none))::M')) else False
    | _=>False) else False else False
   | .nil=>bif D8 s then BW ys z bytes λ es n=>EX s tm M λ k=>K (.row k 0 z 0 n) ((k,s,.rw z es)::M) else False
   | _=>False)
 | .ax s z bytes x y=>match ex tm y with
  | .sl _ ys=>match ex tm x with
   | .row key 0 z' off len=>bif Nat.beq off 0 then bif Nat.beq z' z then (match c7 M key with
    | some (s',.rw w8 es)=>bif Nat.beq s' s then bif Nat.beq w8 z then fM (n0 key M) λ M'=>(BO es len ys z bytes λ es' n=>EX s tm M λ k=>K (.row k 0 z 0 n) ((k,s',.rw z es')::M')) else False else False
    | _=>False) else False else False
   | _=>False
  | _=>False
 | .jg z x y=>RQ M (ex tm y) λ ys=>match ex tm x with
  | .row key 0 z' off len=>bif Nat.beq z' z then (match c7 M key with
   | some (s',.rw w8 es)=>bif Nat.beq w8 z then C0 es off len ys z λ es' n=>K (.int .i64 (n:Int)) ((key,s',.rw z es')::M) else False
   | _=>False) else False
  | _=>False
 | .call f xs=>VP tm M b9 xs λ vs=>AC L f vs λ r=>K r M
 | .g6 f xs=>QF tm xs λ vs=>A4 L f vs tm M K
 | .o5 s f xs=>bif D8 s then Z6 tm M b9 xs λ vs=>B8 L f vs λ z es n=>EX s tm M λ k=>K (.row k 0 z 0 n) ((k,s,.rw z es)::M) else False
 | .mc ne x=>match ex tm x with
  | .nil=>fB (xor true ne) λ c=>K (.bool c) M
  | .z8 (.bool b)=>fB (xor b ne) λ c=>K (.bool c) M
  | .sl _ es=>AR (es≠[]) (fB (xor false ne) λ c=>K (.bool c) M)
  | .row _ _ _ _ n=>AR (0<n) (fB (xor false ne) λ c=>K (.bool c) M)
  | _=>False
 | .bad=>False
 | .mw x=>match ex tm x with
  | .ptr key t i j=>K (.ptr key t i j) M
  | _=>False
 | .da x=>match ex tm x with
  | .nil=>K (.int .i64 0) M
  | _=>False
 | .je s z bytes x y=>match ex tm x,ex tm y with
  | .nil,.int _ n=>bif D8 s then AR (0<n/\n*bytes<=D6/\n<=9223372036854775807) (EX s tm M λ k=>K (.row k 0 z 0 n.toNat) ((k,s,.rw z [])::M)) else False
  | _,_=>False
 | .w9 s f xs=>QF tm xs λ vs=>match vs with
  | .ptr key 0 0 0::rest=>bif UT rest then oM L s f key rest M K else False
  | _=>False
 | .jd s z bytes x y=>match ex tm x,ex tm y with
  | .nil,.sl _ ys=>bif D8 s then BW ys z bytes λ es n=>AR (0<n) (EX s tm M λ k=>K (.row k 0 z 0 n) ((k,s,.rw z es)::M)) else False
  | _,_=>False
 | .cp tb x=>match ex tm x with
  | .int _ n=>ON tb n λ v=>K (.int .u8 v) M
  | _=>False
 | .ju p f xs=>Y5 tm xs λ cs=>K (.fn p f (L.num f) cs) M
 | .n9 x xs=>match ex tm x with
  | .fn true f g []=>AR (g=L.num f) (VP tm M [] xs λ vs=>AC L f vs λ r=>K r M)
  | .fn false f g cs=>bif SF cs then AR (g=L.num f) (QF tm xs λ vs=>fL (vs++cs) λ vs=>A4 L f vs tm M K) else False
  | _=>False
def wy (key:Nat):Tm->Tm
 | []=>[]
 | (j,v)::r=>bif NU key v then (j,.any)::wy key r else (j,v)::wy key r
def xk (v:AV) (tm:Tm) (K:Tm->Prop):Prop:=match v with
 | .row key (_+1) _ _ _=>fT (wy key tm) K
 | _=>K tm
noncomputable def XI (L:Lib) (o:AI) (ih:(Tm->Mem->Prop)->Tm->Mem->Prop) (K:Tm->Mem->Prop) (tm:Tm) (M:Mem):Prop:=match o with
 | ⟨some d,.app s z b x y,none,b9⟩=>XE L tm M b9 (λ v M=>xk (ex tm x) tm λ tm=>ih K ((d,v)::tm) M) (.app s z b x y)
 | ⟨some d,op,none,b9⟩=>XE L tm M b9 (λ v M=>ih K ((d,v)::tm) M) op
 | ⟨none,op,none,b9⟩=>XE L tm M b9 (λ_ M=>ih K tm M) op
 | ⟨dst,op,some (g,w),b9⟩=>match tg tm g with
  | .bool b=>fB (b == w) λ c=>match c,dst with
   | true,some d=>XE L tm M b9 (λ v M=>ih K ((d,v)::tm) M) op
   | true,none=>XE L tm M b9 (λ_ M=>ih K tm M) op
   | false,some d=>ih K ((d,.j4 [])::tm) M
   | false,none=>ih K tm M
  | .j4 []=>match dst with
   | some d=>ih K ((d,.j4 [])::tm) M
   | none=>ih K tm M
  | _=>False
noncomputable def XO (L:Lib) (l:List AI):(Tm->Mem->Prop)->Tm->Mem->Prop :=
 List.rec (motive:=λ_=>(Tm->Mem->Prop)->Tm->Mem->Prop) (λ K tm M=>K tm M) (λ o _ ih K tm M=>XI L o ih K tm M) l
noncomputable def XS (L:Lib) (Q:Tm->Mem->Prop) (ih:List It->Tm->Mem->Prop) (k:List It) (tm:Tm) (M:Mem):Prop:=match k with
 | []=>Q tm M
 | it::k=>match it with
  | .c9 _=>ih k tm M
  | .im ts ss=>fN (mask 0 ts) λ m=>fT (qa m tm) λ tm=>match ss with
   | []=>ih k tm M
   | _::_=>False
  | .lp c=>AA L (.lp c::k) tm M Q
  | .code c=>match c with
   | .skip=>ih k tm M
   | .ops l _=>XO L l (λ tm M=>ih k tm M) tm M
   | .dr c ts ss=>ih (.code c :: .im ts ss::k) tm M
   | .scope c=>ih (.code c::k) tm M
   | .seq a b=>ih (.code a :: .code b::k) tm M
   | .cond x a b=>match ex tm x with
    | .bool b'=>fB b' λ c=>match c with
     | true=>ih (.code a::k) tm M
     | false=>ih (.code b::k) tm M
    | _=>False
   | .block id c=>ih (.code c :: .c9 id::k) tm M
   | .loop c=>AA L (.lp c::k) tm M Q
   | .exit id=>match EU id k with
    | some k'=>ih k' tm M
    | none=>False
   | .ret=>Q tm M
noncomputable def XK (L:Lib) (Q:Tm->Mem->Prop) (n:Nat):List It->Tm->Mem->Prop :=
 Nat.rec (motive:=λ_=>List It->Tm->Mem->Prop) (λ k tm M=>AA L k tm M Q) (λ_ ih k tm M=>XS L Q ih k tm M) n
def SP (tm:Tm) (M:Mem) (r:H1) (K:AV->Prop):Prop:=match r with
 | .tmp t=>f2 (tg tm t) K
 | .cell t agg n=>match tg tm t with
  | .ptr key 0 i j=>match c7 M key with
   | some (_,.bx cs)=>bif Nat.beq i 0 then (match part cs j n with
    | some ds=>fL ds λ ds=>jv agg ds K
    | none=>False) else False
   | _=>False
  | _=>False
noncomputable def U9 (tm:Tm) (M:Mem) (l:List H1):(List AV->Prop)->Prop :=
 List.rec (motive:=λ_=>(List AV->Prop)->Prop) (λ K=>K []) (λ x _ ih K=>SP tm M x λ v=>ih λ vs=>K (v::vs)) l
noncomputable def Z2 (q:Bool) (M:Mem) (l:List AV):(List AV->Prop)->Prop :=
 List.rec (motive:=λ_=>(List AV->Prop)->Prop) (λ K=>K []) (λ x _ ih K=>N9 q M [] x λ v=>ih λ vs=>K (v::vs)) l
def Ii (vs:List AV) (K:AV->Prop):Prop:=match vs with
 | [v]=>K v
 | vs=>K (.j4 vs)
def AL (a r:AV):Prop:=a=r/\A1 r
noncomputable def NQ (fn:AFn) (r:AV) (tm:Tm) (M:Mem):Prop:=U9 tm M fn.res λ vs=>Z2 false M vs λ vs=>Ii vs λ v=>AL v r
end Go.c4
