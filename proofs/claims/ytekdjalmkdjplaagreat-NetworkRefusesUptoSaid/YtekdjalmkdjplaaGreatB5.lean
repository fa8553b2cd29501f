/-
  A walk by computation: the code is run on a table of values and a list of what the call's own memory holds; it pauses where a number decides.
-/
import Derived.Test.YtekdjalmkdjplaaGreatB4
set_option linter.unusedSimpArgs false
set_option linter.unusedVariables false
set_option linter.unnecessarySimpa false
namespace Go.c8
inductive A4 where
 | bx (cs:List AV)
 | rw (z:Nat) (es:List (List AV))
 | bs (z:Nat) (es:List (List AV))
 | mx (rows:List (Option (Nat × List (List AV))))
 | hx (i:Nat) (v:AV) (rows:List (Option (Nat × List (List AV))))
 | vw (w:List Nat) (rows:List (Option (Nat × List (List AV))))
abbrev Mem:=List (Nat × Nat × A4)
def b8:Mem->Nat->Option (Nat × A4)
 | [],_=>none
 | (k,s,c)::r,j=>bif Nat.beq j k then some (s,c) else b8 r j
def b7 (M:Mem) (k t:Nat):Option A4:=match b8 M k with
 | none=>none
 | some (_,c)=>match t with
  | 0=>some c
  | i+1=>match c with
   | .mx rows=>match rows[i]? with
    | some (some (z,es))=>some (.rw z es)
    | _=>none
   | .hx _ _ rows=>match rows[i]? with
    | some (some (z,es))=>some (.rw z es)
    | _=>none
   | .vw _ rows=>match rows[i]? with
    | some (some (z,es))=>some (.rw z es)
    | _=>none
   | _=>none
def m5 (j:Nat):Mem->Mem
 | []=>[]
 | (k,s,c)::r=>bif Nat.beq j k then m5 j r else (k,s,c)::m5 j r
def tg:Tm->Nat->AV
 | [],_ => .any
 | (i,v)::r,j=>bif Nat.beq j i then v else tg r j
def bit (m i:Nat):Bool:=Nat.beq (Nat.land (Nat.shiftRight m i) 1) 1
def mask:Nat->List Nat->Nat
 | m,[]=>m
 | m,t::ts=>mask (Nat.lor m (Nat.shiftLeft 1 t)) ts
def om (m:Nat):Tm->Tm
 | []=>[]
 | (i,v)::r=>bif bit m i then om m r else (i,v)::om (Nat.lor m (Nat.shiftLeft 1 i)) r
def fN (n:Nat) (K:Nat->Prop):Prop:=match n with
 | 0=>K 0
 | k+1=>K (k+1)
def lz:AV->Bool
 | .int _ _=>true | .bool _=>true | .w6 _=>true | .sl _ _=>true | .nil=>true
 | _=>false
def DB:List AV->Bool
 | []=>true
 | v::r=>bif lz v then DB r else false
def RN:List (List AV)->Bool
 | []=>true
 | v::r=>bif DB v then RN r else false
def LO (s:Nat):AV->Bool
 | .row k _ _ _ _=>Nat.beq k s | .ptr k _ _ _=>Nat.beq k s
 | _=>false
def HG (s:Nat):List AV->Bool
 | []=>false
 | v::r=>bif LO s v then true else HG s r
def NT (s:Nat):List (List AV)->Bool
 | []=>false
 | v::r=>bif HG s v then true else NT s r
def MZ (s:Nat):AV->Bool
 | .agg cs=>HG s cs
 | .fn _ _ _ cs=>HG s cs
 | v=>LO s v
def QQ (s:Nat):List AV->Bool
 | []=>false
 | v::r=>bif MZ s v then true else QQ s r
def LP (s:Nat):AV->Bool
 | .e7 vs=>QQ s vs
 | v=>MZ s v
def GO (s:Nat):Tm->Bool
 | []=>false
 | (_,v)::r=>bif LP s v then true else GO s r
def GN (s:Nat):A4->Bool
 | .bx cs=>HG s cs
 | .rw _ _=>false
 | .bs _ es=>NT s es
 | .mx _=>false
 | .hx _ _ _=>false
 | .vw _ _=>false
def FR (s:Nat):Mem->Bool
 | []=>false
 | (k,_,c)::r=>bif Nat.beq s k then true else bif GN s c then true else FR s r
def ML (s:Nat):AV->Bool
 | .row k t _ _ _=>bif Nat.beq k s then (match t with|0=>false|_+1=>true) else false
 | .ptr k t _ _=>bif Nat.beq k s then (match t with|0=>false|_+1=>true) else false
 | _=>false
def LZ (s:Nat):List AV->Bool
 | []=>false
 | v::r=>bif ML s v then true else LZ s r
def OE (s:Nat):AV->Bool
 | .agg cs=>LZ s cs
 | .fn _ _ _ cs=>LZ s cs
 | v=>ML s v
def PV (s:Nat):List AV->Bool
 | []=>false
 | v::r=>bif OE s v then true else PV s r
def NE (s:Nat):AV->Bool
 | .e7 vs=>PV s vs
 | v=>OE s v
def L0 (s:Nat):Tm->Bool
 | []=>false
 | (_,v)::r=>bif NE s v then true else L0 s r
def PW (s:Nat):List (List AV)->Bool
 | []=>false
 | v::r=>bif LZ s v then true else PW s r
def MM (s:Nat):A4->Bool
 | .bx cs=>LZ s cs
 | .bs _ es=>PW s es
 | _=>false
def IM (s:Nat):Mem->Bool
 | []=>false
 | (_,_,c)::r=>bif MM s c then true else IM s r
def used (k:Nat) (tm:Tm) (M:Mem):Bool:=bif FR k M then true else GO k tm
def U4 (tm:Tm) (M:Mem):List Nat->(Nat->Prop)->Prop
 | [],_=>False
 | k::r,K=>bif used k tm M then U4 tm M r K else K k
def FU (s:Nat) (tm:Tm) (M:Mem) (K:Nat->Prop):Prop:=U4 tm M [s,s+1000000,s+2000000,s+3000000] K
def fL:List AV->(List AV->Prop)->Prop
 | [],K=>K []
 | v::r,K=>fL r λ r'=>K (v::r')
def fV (v:AV) (K:AV->Prop):Prop:=match v with
 | .int k n=>K (.int k n) | .bool b=>K (.bool b) | .sl l es=>K (.sl l es) | .row s t z o n=>K (.row s t z o n)
 | .nil=>K .nil | .ptr s t i j=>K (.ptr s t i j) | .n7 cs=>K (.n7 cs) | .agg cs=>fL cs λ cs=>K (.agg cs)
 | .fn p f g cs=>fL cs λ cs=>K (.fn p f g cs)
 | .e7 vs=>fL vs λ vs=>K (.e7 vs) | .w6 c=>K (.w6 c) | .any=>False
def fC (v:AV) (K:List AV->Prop):Prop:=match v with
 | .agg cs=>fL cs K
 | .fn _ _ _ _=>False
 | .e7 _=>False
 | .any=>False
 | v=>fV v λ v=>K [v]
def fB (b:Bool) (K:Bool->Prop):Prop:=match b with
 | true=>K true
 | false=>K false
def fT:Tm->(Tm->Prop)->Prop
 | [],K=>K []
 | (i,v)::r,K=>fT r λ r'=>K ((i,v)::r')
def fM:Mem->(Mem->Prop)->Prop
 | [],K=>K []
 | (k,s,c)::r,K=>fM r λ r'=>K ((k,s,c)::r')
def fF (v:AV) (K:AV->Prop):Prop:=match v with
 | .int k n=>K (.int k n) | .bool b=>K (.bool b) | .sl l es=>K (.sl l es) | .row s t z o n=>K (.row s t z o n)
 | .nil=>K .nil | .ptr s t i j=>K (.ptr s t i j) | .w6 c=>K (.w6 c)|_=>False
def f2 (v:AV) (K:AV->Prop):Prop:=match v with
 | .int k n=>K (.int k n) | .bool b=>K (.bool b) | .sl l es=>K (.sl l es) | .row s t z o n=>K (.row s t z o n)
 | .nil=>K .nil | .ptr s t i j=>K (.ptr s t i j) | .w6 c=>K (.w6 c) | .agg cs=>fL cs λ cs=>K (.agg cs) | .fn p f g cs=>fL cs λ cs=>K (.fn p f g cs)|_=>False
def jt (agg:Bool) (ds:List AV) (K:AV->Prop):Prop:=match agg with
 | true=>K (.agg ds)
 | false=>match ds with
  | [c]=>fF c K
  | _=>False
def AF (p q A B:Prop):Prop:=(p->A)/\(q->B)
def AX (p A:Prop):Prop:=p/\A
def AB (op:BinOp) (k:IntKind) (a:Int) (k':IntKind) (b:Int) (K:AV->Prop):Prop := ∃ v,CD op k a k' b=some v/\K v
def CQ (op:UnOp) (k:IntKind) (n:Int) (K:AV->Prop):Prop := ∃ v,NZ op (.int k n)=some v/\K v
structure AW (k:IntKind) (n:Int) (K:Int->Prop):Prop where h:K (k.wrap n)
def AY (es:List (List AV)) (a:Int) (z:Nat) (K:List AV->Prop):Prop:=0<=a /\ ∃ cs,es[a.toNat]? = some cs/\cs.length=z/\K cs
def BB (es:List (List AV)) (i j n:Nat) (K:List AV->Prop):Prop := ∃ cs ds,es[i]? = some cs/\part cs j n=some ds/\K ds
def A9 (es:List (List AV)) (i j:Nat) (vs:List AV) (K:List (List AV)->Prop):Prop := ∃ cs,es[i]? = some cs/\j+vs.length<=cs.length/\K (es.set i (splice cs j vs))
def BS (a b:Int) (bytes:Nat) (zero:List AV) (K:List (List AV)->Nat->Prop):Prop:=(0<=a/\a<=b/\b*bytes<=FF/\b<=9223372036854775807)/\K (List.replicate a.toNat zero) a.toNat
structure AP (es:List (List AV)) (K:Nat->Prop):Prop where h:K es.length
def BR (es:List (List AV)) (len:Nat) (ys:List (List AV)) (z bytes:Nat) (K:List (List AV)->Nat->Prop):Prop :=
 len<=es.length/\(∀ e∈ys,e.length=z)/\(len+ys.length)*bytes<=FF/\len+ys.length<=9223372036854775807/\K (es.take len++ys) (len+ys.length)
def CX (ys:List (List AV)) (z bytes:Nat) (K:List (List AV)->Nat->Prop):Prop :=
 (∀ e∈ys,e.length=z)/\ys.length*bytes<=FF/\ys.length<=9223372036854775807/\K ys ys.length
def D9 (es:List (List AV)) (off len:Nat) (ys:List (List AV)) (z:Nat) (K:List (List AV)->Nat->Prop):Prop :=
 off+len<=es.length/\(∀ e∈ys,e.length=z)/\K (es.take off++ys.take len++es.drop (off+min ys.length len)) (min ys.length len)
def BT (es:List (List AV)) (off len:Nat) (K:List (List AV)->Prop):Prop:=off+len<=es.length/\K ((es.drop off).take len)
def E8:List AV->Bool
 | []=>true
 | v::r=>match v with
  | .int _ _=>E8 r | .bool _=>E8 r | .w6 _=>E8 r | .sl _ _=>E8 r
  | _=>false
def nl:AV->AV
 | .nil => .sl false []
 | v=>v
def KJ:List AV->Bool
 | []=>true
 | v::r=>match v with
  | .int _ _=>KJ r | .bool _=>KJ r | .w6 _=>KJ r | .sl _ _=>KJ r | .nil=>KJ r
  | _=>false
def A1 (es:List (List AV)) (off len:Nat) (K:List (List AV)->Prop):Prop:=off+len<=es.length/\(∀ e∈es,KJ e=true)/\K (((es.drop off).take len).map λ e=>e.map nl)
def C7 (rows:List (Option (Nat × List (List AV)))) (i:Nat) (K:Option (Nat × List (List AV))->Prop):Prop := ∃ r,rows[i]? = some r/\K r
def CE (rows:List (Option (Nat × List (List AV)))) (i:Nat) (K:Nat->List (List AV)->Prop):Prop := ∃ z es,rows[i]? = some (some (z,es))/\K z es
def DM (rows:List (Option (Nat × List (List AV)))) (i z:Nat) (es:List (List AV)) (K:List (Option (Nat × List (List AV)))->Prop):Prop:=i<rows.length/\K (rows.set i (some (z,es)))
def DF (rows:List (Option (Nat × List (List AV)))) (i z:Nat) (es es':List (List AV)) (K:List (Option (Nat × List (List AV)))->Prop):Prop:=es'.length=es.length/\K (rows.set i (some (z,es')))
def DP (a b:Int) (bytes:Nat) (K:List (Option (Nat × List (List AV)))->Nat->Prop):Prop:=(0<=a/\a<=b/\b*bytes<=FF/\b<=9223372036854775807)/\K (List.replicate a.toNat none) a.toNat
def DU (rows:List (Option (Nat × List (List AV)))) (len:Nat) (r:Option (Nat × List (List AV))) (bytes:Nat) (K:List (Option (Nat × List (List AV)))->Nat->Prop):Prop :=
 len=rows.length/\(len+1)*bytes<=FF/\len+1<=9223372036854775807/\K (rows++[r]) (len+1)
def SN (q:Bool):List (Option (Nat × List (List AV)))->List (List AV)
 | []=>[]
 | none::r=>[.sl false []]::SN q r
 | some (_,es)::r=>[.sl q es]::SN q r
def DY (q:Bool) (rows:List (Option (Nat × List (List AV)))) (off len:Nat) (K:List (List AV)->Prop):Prop :=
 off=0/\len=rows.length/\(∀ z es,some (z,es)∈rows -> ∀ e∈es,E8 e=true)/\K (SN q rows)
def BP (lo hi:Option Int) (len:Nat) (K:Nat->Nat->Prop):Prop :=
 ∃ a h:Nat,(match lo with|none=>a=0|some x=>0<=x/\a=x.toNat)/\(match hi with|none=>h=len|some x=>0<=x/\x<=len/\h=x.toNat)/\a<=h/\K a h
def CK (z:Nat) (es:List (List AV)) (lo hi:Option Int) (K:List (List AV)->Prop):Prop:=(∀ e∈es,e.length=z)/\BP lo hi es.length λ a h=>K ((es.take h).drop a)
def AC (L:Lib) (f:Nat) (vs:List AV) (K:AV->Prop):Prop := ∃ r,Ev L f vs r/\K r
def UK:List AV->Bool
 | []=>true
 | .int _ _::r=>UK r
 | _=>false
def DE (L:Lib) (f:Nat) (vs:List AV) (K:Nat->List (List AV)->Nat->Prop):Prop := ∃ z es n,N2 L f vs z es/\n=es.length/\K z es n
abbrev EJ:=Nat->Nat->Nat × Nat
def A0 (σ:EJ):AV->AV
 | .row k t z o n => .row (σ k t).1 (σ k t).2 z o n
 | .ptr k t i j => .ptr (σ k t).1 (σ k t).2 i j
 | v=>v
def BC (σ:EJ):AV->AV
 | .agg cs => .agg (cs.map (A0 σ))
 | .fn p f g cs => .fn p f g (cs.map (A0 σ))
 | v=>A0 σ v
def A7 (σ:EJ):AV->AV
 | .e7 vs => .e7 (vs.map (BC σ))
 | v=>BC σ v
def BU (σ:EJ) (k:Nat):Nat->List (Option (Nat × List (List AV)))->List (List AV)
 | _,[]=>[]
 | i,none::r=>[.nil]::BU σ k (i+1) r
 | i,some (z,es)::r=>[.row (σ k (i+1)).1 (σ k (i+1)).2 z 0 es.length]::BU σ k (i+1) r
def A4.c7 (σ:EJ) (k:Nat):A4->C6
 | .bx cs=>⟨cs.length,[cs.map (A0 σ)]⟩
 | .rw z es=>⟨z,es⟩
 | .bs z es=>⟨z,es.map λ cs=>cs.map (A0 σ)⟩
 | .mx rows=>⟨1,BU σ k 0 rows⟩
 | .hx i v rows=>⟨1,(BU σ k 0 rows).set i [v]⟩
 | .vw w rows=>⟨1,w.map λ t=>((BU σ k 0 rows)[t]?).getD []⟩
def A4.fb:A4->Bool
 | .bx _=>false
 | _=>true
def D5 (s:Nat):Bool:=Nat.blt s 900000
structure GH (σ:EJ) (own:AE) (M:Mem):Prop where
 site : ∀ k s c,b8 M k=some (s,c)->(σ k 0).1=s
 c7 : ∀ k t c,b7 M k t=some c->(own (σ k t).1).c7 (σ k t).2=some (c.c7 σ k)
 old : ∀ k t c,b7 M k t=some c->(σ k t).2<(own (σ k t).1).c9
 inj : ∀ k t k' t' c c',b7 M k t=some c->b7 M k' t'=some c'->σ k t=σ k' t'->k=k'/\t=t'
 low : ∀ k t c,b7 M k t=some c->c.fb=true->D5 (σ k t).1=true
structure RX (σ:EJ) (tm:Tm) (M:Mem) (st:St):Prop where
 tm : ∀ j,tg tm j = .any\/c6 st.tm j=A7 σ (tg tm j)
 sat:GH σ st.own M
def SQ (Q:Tm->Mem->Prop) (st:St):Prop := ∃ σ tm M,RX σ tm M st/\Q tm M
def AA (L:Lib) (k:List It) (tm:Tm) (M:Mem) (Q:Tm->Mem->Prop):Prop := ∀ σ st,RX σ tm M st->AK L k st (SQ Q)
def aI (L:Lib) (l:List AI) (k:List It) (tm:Tm) (M:Mem) (Q:Tm->Mem->Prop):Prop := ∀ σ st,RX σ tm M st->AO L l k st (SQ Q)
def A5 (L:Lib) (f:Nat) (vs:List AV) (tm:Tm) (M:Mem) (K:AV->Mem->Prop):Prop :=
 ∀ σ own,GH σ own M -> ∃ r j7 σ' M',FM L f (vs.map (A7 σ)) own (A7 σ' r) j7/\GH σ' j7 M'/\(∀ j,A7 σ' (tg tm j)=A7 σ (tg tm j))/\K r M'
def QL (s:Nat):Mem->Bool
 | []=>true
 | (_,s',_)::r=>bif Nat.beq s' s then false else QL s r
def nX (L:Lib) (s f:Nat):Prop :=
 ∀ n vs (o0 o2:AE) r o',(∀ t,o0.get s t=none)->(∀ q,q≠s->o2 q=o0 q)->CN L n f vs o0=some (r,o')->CN L n f vs o2=some (r,o'.put s (o2 s))
def nR (L:Lib) (s f:Nat) (vs:List AV) (tm:Tm) (M:Mem) (K:AV->Mem->Prop):Prop :=
 nX L s f/\(D5 s=false/\QL s M=true)/\A5 L f vs tm M λ r M'=>QL s M'=true/\K r M'
def nS (L:Lib) (s f key:Nat) (rest:List AV) (M:Mem) (K:AV->Mem->Prop):Prop :=
 ∃ (cells bh:List AV) (kd:IntKind) (n:Int),b8 M key=some (s,.bx cells)/\DB cells=true/\DB bh=true/\(∀ (t:Nat) (q:BO),q.c7 t=some ⟨cells.length,[cells]⟩->aM L s f (.ptr s t 0 0::rest) q (.int kd n) (q.m9 t (some ⟨bh.length,[bh]⟩)))/\K (.int kd n) ((key,s,.bx bh)::M)
def cv:AV->AV
 | .agg cs=>bif DB cs then .agg cs else .any
 | .e7 [] => .e7 []
 | .n7 _ => .any
 | .fn p f g [] => .fn p f g []
 | v=>bif lz v then v else .any
def ex (tm:Tm):AM->AV
 | .t n=>tg tm n
 | .c v=>cv v
def kq (k k':IntKind):Bool:=decide (k=k')
def WI (op:BinOp) (k:IntKind) (a:Int) (k':IntKind) (b:Int) (K:AV->Prop):Prop:=match op with
 | .lss=>bif kq k k' then AF (a<b) (b<=a) (K (.bool true)) (K (.bool false)) else False
 | .leq=>bif kq k k' then AF (a<=b) (b<a) (K (.bool true)) (K (.bool false)) else False
 | .gtr=>bif kq k k' then AF (b<a) (a<=b) (K (.bool true)) (K (.bool false)) else False
 | .geq=>bif kq k k' then AF (b<=a) (a<b) (K (.bool true)) (K (.bool false)) else False
 | .eql=>bif kq k k' then AF (a=b) (a≠b) (K (.bool true)) (K (.bool false)) else False
 | .neq=>bif kq k k' then AF (a≠b) (a=b) (K (.bool true)) (K (.bool false)) else False
 | op=>AB op k a k' b K
noncomputable def O2 (mx:Bool) (k:IntKind) (K:AV->Prop) (a:Int) (l:List AV):Prop :=
 List.rec (motive:=λ_=>Int->Prop) (λ a=>K (.int k a)) (λ v _ ih a=>match v with
  | .int _ b=>bif mx then AF (a<b) (b<=a) (ih b) (ih a) else AF (b<a) (a<=b) (ih b) (ih a)
  | _=>False) l a
def pt:List AV->Nat->AV
 | [],_ => .any
 | v::_,0=>v
 | _::r,n+1=>pt r n
def NR (s:Nat):List Nat->Bool
 | []=>true
 | a7 => !(MS s a7)
def O4:List Nat->Bool
 | []=>true
 | s::r=>bif D5 s then false else O4 r
def ZJ (M:Mem) (k t:Nat) (K:Nat->List (List AV)->Prop):Prop:=match b8 M k with
 | some (_,c)=>match t with
  | 0=>match c with
   | .rw z es=>K z es
   | _=>False
  | i+1=>match c with
   | .mx rows=>CE rows i K
   | _=>False
 | none=>False
def UC (M:Mem) (v:AV) (K:List (List AV)->Prop):Prop:=match v with
 | .sl _ es=>K es
 | .nil=>K []
 | .w6 (.bool _)=>K []
 | .row key t z off len=>ZJ M key t λ z' es=>bif Nat.beq z z' then BT es off len K else False
 | _=>False
def PG (q:Bool) (M:Mem) (a7:List Nat) (v:AV) (K:AV->Prop):Prop:=match v with
 | .int k n=>K (.int k n)
 | .bool b=>K (.bool b)
 | .sl l es=>K (.sl l es)
 | .w6 c=>K (.w6 c)
 | .nil=>K (.sl false [])
 | .row key t z off len=>match b8 M key with
  | some (s,.rw z' es)=>match t with
   | 0=>bif Nat.beq z z' then bif NR s a7 then A1 es off len λ es=>K (.sl q es) else False else False
   | _+1=>False
  | some (_,.mx rows)=>match t with
   | 0=>False
   | i+1=>match a7 with
    | []=>CE rows i λ z' es=>bif Nat.beq z z' then A1 es off len λ es=>K (.sl q es) else False
    | b::r=>bif O4 (b::r) then CE rows i λ z' es=>bif Nat.beq z z' then A1 es off len λ es=>K (.sl q es) else False else False
  | _=>False
 | _=>False
noncomputable def VK (q:Bool) (M:Mem) (a7:List Nat) (l:List AV):(List AV->Prop)->Prop :=
 List.rec (motive:=λ_=>(List AV->Prop)->Prop) (λ K=>K []) (λ v _ ih K=>PG q M a7 v λ v'=>ih λ r'=>K (v'::r')) l
noncomputable def ZQ (q:Bool) (M:Mem) (a7:List Nat) (l:List (List AV)):(List (List AV)->Prop)->Prop :=
 List.rec (motive:=λ_=>(List (List AV)->Prop)->Prop) (λ K=>K []) (λ v _ ih K=>VK q M a7 v λ v'=>ih λ r'=>K (v'::r')) l
noncomputable def SR (q:Bool) (M:Mem) (a7:List Nat) (v:AV) (K:AV->Prop):Prop:=match v with
 | .row key 0 z off len=>match b8 M key with
  | some (s,.bs z' es)=>bif Nat.beq z z' then bif NR s a7 then bif Nat.beq off 0 then AX (len=es.length) (ZQ q M a7 es λ es=>K (.sl q es)) else False else False else False
  | some (_,.mx rows)=>match a7 with
   | []=>bif Nat.beq z 1 then DY q rows off len λ es=>K (.sl q es) else False
   | _::_=>False
  | _=>PG q M a7 (.row key 0 z off len) K
 | v=>PG q M a7 v K
noncomputable def ZR (q:Bool) (M:Mem) (a7:List Nat) (l:List AV):(List AV->Prop)->Prop :=
 List.rec (motive:=λ_=>(List AV->Prop)->Prop) (λ K=>K []) (λ v _ ih K=>SR q M a7 v λ v'=>ih λ r'=>K (v'::r')) l
noncomputable def M3 (q:Bool) (M:Mem) (a7:List Nat) (v:AV) (K:AV->Prop):Prop:=match v with
 | .agg cs=>ZR q M a7 cs λ cs=>K (.agg cs)
 | v=>SR q M a7 v K
noncomputable def SS (tm:Tm) (M:Mem) (a7:List Nat) (l:List AM):(List AV->Prop)->Prop :=
 List.rec (motive:=λ_=>(List AV->Prop)->Prop) (λ K=>K []) (λ x _ ih K=>M3 true M a7 (ex tm x) λ v=>ih λ vs=>K (v::vs)) l
noncomputable def VM (M:Mem) (a7:List Nat) (v:AV) (K:AV->Prop):Prop:=match v with
 | .nil=>K .nil
 | v=>M3 true M a7 v K
noncomputable def ZS (tm:Tm) (M:Mem) (a7:List Nat) (l:List AM):(List AV->Prop)->Prop :=
 List.rec (motive:=λ_=>(List AV->Prop)->Prop) (λ K=>K []) (λ x _ ih K=>VM M a7 (ex tm x) λ v=>ih λ vs=>K (v::vs)) l
noncomputable def OV (tm:Tm) (l:List AM):(List AV->Prop)->Prop :=
 List.rec (motive:=λ_=>(List AV->Prop)->Prop) (λ K=>K []) (λ x _ ih K=>fV (ex tm x) λ v=>ih λ vs=>K (v::vs)) l
def UX (tm:Tm) (o:Option AM) (K:Option Int->Prop):Prop:=match o with
 | none=>K none
 | some x=>match ex tm x with
  | .int _ n=>K (some n)
  | _=>False
def YI (es:List (List AV)) (K:Nat->Prop):Prop:=match es with
 | []=>K 0
 | [_]=>K 1
 | [_,_]=>K 2
 | [_,_,_]=>K 3
 | [_,_,_,_]=>K 4
 | es=>K es.length
noncomputable def WL (tm:Tm) (z:Nat) (l:List AM):(List (List AV)->Prop)->Prop :=
 List.rec (motive:=λ_=>(List (List AV)->Prop)->Prop) (λ K=>K []) (λ x _ ih K=>fC (ex tm x) λ cs=>bif Nat.beq cs.length z then ih λ es=>K (cs::es) else False) l
noncomputable def XW (tm:Tm) (ps:List (Nat × Nat × AM)):List AV->(List AV->Prop)->Prop :=
 List.rec (motive:=λ_=>List AV->(List AV->Prop)->Prop) (λ cells K=>K cells) (λ p _ ih cells K=>fC (ex tm p.2.2) λ vs=>bif Nat.beq vs.length p.2.1 then bif Nat.ble (p.1+p.2.1) cells.length then fL (splice cells p.1 vs) λ cells=>ih cells K else False else False) ps
def NH (tm:Tm):List AM->List AV
 | []=>[]
 | x::r=>ex tm x::NH tm r
def N9 (tb:List Nat) (n:Int) (K:Nat->Prop):Prop:=0<=n /\ ∃ v,tb[n.toNat]? = some v/\K v
noncomputable def YQ (tm:Tm) (l:List AM):(List AV->Prop)->Prop :=
 List.rec (motive:=λ_=>(List AV->Prop)->Prop) (λ K=>K []) (λ x _ ih K=>fF (ex tm x) λ v=>ih λ cs=>K (v::cs)) l
def YV:AV->Bool
 | .agg _=>false | .fn _ _ _ _=>false | .e7 _=>false | .any=>false
 | _=>true
def SC:List AV->Bool
 | []=>true
 | v::r=>bif YV v then SC r else false
def OB (M:Mem) (v:AV):Option (Nat × Option (Nat × Nat × Nat)):=match v with
 | .row ky 0 1 0 1=>match b8 M ky with
  | some (_,.bs 1 [[.row k2 0 z 0 n]])=>some (ky,some (k2,z,n))
  | some (_,.rw 1 [[.nil]])=>some (ky,none)
  | _=>none
 | _=>none
def ZZ (tm:Tm) (M:Mem) (K:AV->Mem->Prop) (n:Nat) (x v:AM):Prop:=match ex tm x with
 | .ptr key t i j=>fC (ex tm v) λ vs=>bif Nat.beq vs.length n then (match b8 M key with
  | some (s,c)=>match t with
   | 0=>match c with
    | .bx cs=>bif Nat.beq i 0 then bif Nat.ble (j+vs.length) cs.length then fL (splice cs j vs) λ y8=>K (.e7 []) ((key,s,.bx y8)::M) else False else False
    | .rw z es=>bif DB vs then A9 es i j vs λ es'=>K (.e7 []) ((key,s,.rw z es')::M) else False
    | .bs _ _=>False
    | .mx rows=>match vs with
     | [.row v9 0 z 0 m]=>bif Nat.beq key v9 then False else bif L0 key tm then False else bif IM key M then False else bif Nat.beq j 0 then (match b8 M v9 with
      | some (_,.rw z' es)=>bif Nat.beq z z' then fM (m5 v9 M) λ M'=>AX (m=es.length) (DM rows i z es λ bf=>K (.e7 []) ((key,s,.mx bf)::M')) else False
      | _=>False) else False
     | _=>False
    | .hx i0 _ rows=>match vs with
     | [.row v9 0 z 0 m]=>bif Nat.beq key v9 then False else bif L0 key tm then False else bif IM key M then False else bif Nat.beq j 0 then (match b8 M v9 with
      | some (_,.rw z' es)=>bif Nat.beq z z' then fM (m5 v9 M) λ M'=>AX (i=i0/\m=es.length) (DM rows i z es λ bf=>K (.e7 []) ((key,s,.mx bf)::M')) else False
      | _=>False) else False
     | _=>False
    | .vw _ _=>False
   | i'+1=>match c with
    | .mx rows=>bif DB vs then CE rows i' λ z es=>A9 es i j vs λ es'=>DF rows i' z es es' λ bf=>K (.e7 []) ((key,s,.mx bf)::M) else False
    | _=>False
  | none=>False) else False
 | _=>False
def BQ (r:AV) (K:AV->Prop):Prop:=(HW r\/N1 r)/\K (JU r)
noncomputable def XE (L:Lib) (tm:Tm) (M:Mem) (a7:List Nat) (K:AV->Mem->Prop):C2->Prop
 | .m8 x=>fV (ex tm x) λ v=>K v M
 | .u9 s z=>bif D5 s then FU s tm M λ k=>K (.row k 0 z 0 0) ((k,s,.rw z [])::M) else False
 | .pick c a b=>match ex tm c with
  | .bool true=>fV (ex tm a) λ v=>K v M
  | .bool false=>fV (ex tm b) λ v=>K v M
  | _=>False
 | .bin op x y=>match ex tm x,ex tm y with
  | .int k a,.int k' b=>WI op k a k' b λ v=>K v M
  | _,_=>False
 | .beq ne x y=>match ex tm x,ex tm y with
  | .bool a,.bool b=>fB (bif ne then !(a == b) else a == b) λ c=>K (.bool c) M
  | _,_=>False
 | .un op x=>match ex tm x with
  | .int k n=>CQ op k n λ v=>K v M
  | .bool b=>match op with
   | .not=>fB (!b) λ c=>K (.bool c) M
   | _=>False
  | _=>False
 | .conv k x=>match ex tm x with
  | .int _ n=>AW k n λ v=>K (.int k v) M
  | _=>False
 | .box s x=>fC (ex tm x) λ cs=>FU s tm M λ k=>K (.ptr k 0 0 0) ((k,s,.bx cs)::M)
 | .alloc s zero=>bif DB zero then (FU s tm M λ k=>K (.ptr k 0 0 0) ((k,s,.bx zero)::M)) else False
 | .build zero parts=>bif DB zero then XW tm parts zero λ cs=>K (.agg cs) M else False
 | .b9 s z parts=>bif D5 s then WL tm z parts λ es=>YI es λ n=>FU s tm M λ k=>bif RN es then K (.row k 0 z 0 n) ((k,s,.rw z es)::M) else K (.row k 0 z 0 n) ((k,s,.bs z es)::M) else False
 | .m4 x off=>match ex tm x with
  | .ptr key t i j=>K (.ptr key t i (j+off)) M
  | .n7 cs=>fL (cs.drop off) λ cs=>K (.n7 cs) M
  | _=>False
 | .gu x off n agg=>match ex tm x with
  | .agg cs=>match part cs off n with
   | some ds=>fL ds λ ds=>jt agg ds λ v=>K v M
   | none=>False
  | _=>False
 | .o6 arr z x i=>match ex tm i with
  | .int _ n=>match arr,ex tm x with
   | some len,.ptr key t i' j=>AX (0<=n/\n<(len:Int)) (K (.ptr key t i' (j+n.toNat*z)) M)
   | some len,.n7 cs=>AX (0<=n/\n<(len:Int)) (fL (cs.drop (n.toNat*z)) λ cs=>K (.n7 cs) M)
   | none,.row key t z' off len=>bif Nat.beq z' z then AX (0<=n/\n<(len:Int)) (K (.ptr key t (off+n.toNat) 0) M) else False
   | none,.sl _ es=>AY es n z λ cs=>K (.n7 cs) M
   | _,_=>False
  | _=>False
 | .ld agg n x=>match ex tm x with
  | .ptr key t i j=>match b8 M key with
   | some (s,c)=>match t with
    | 0=>bif NR s a7 then (match c with
     | .bx cs=>bif Nat.beq i 0 then (match part cs j n with
      | some ds=>fL ds λ ds=>jt agg ds λ v=>K v M
      | none=>False) else False
     | .rw _ es=>BB es i j n λ ds=>fL ds λ ds=>bif DB ds then jt agg ds λ v=>K v M else False
     | .bs _ es=>(match es[i]? with
      | some cs=>(match part cs j n with
       | some ds=>fL ds λ ds=>jt agg ds λ v=>K v M
       | none=>False)
      | none=>False)
     | .mx rows=>bif Nat.beq j 0 then bif Nat.beq n 1 then C7 rows i λ r=>match r with
      | some (z,es)=>jt agg [.row key (i+1) z 0 es.length] λ v=>K v M
      | none=>jt agg [.nil] λ v=>K v M else False else False
     | .hx _ _ _=>False
     | .vw _ _=>False) else False
    | i'+1=>match c,a7 with
     | .mx rows,[]=>CE rows i' λ_ es=>BB es i j n λ ds=>fL ds λ ds=>bif DB ds then jt agg ds λ v=>K v M else False
     | .mx rows,b::r=>bif O4 (b::r) then CE rows i' λ_ es=>BB es i j n λ ds=>fL ds λ ds=>bif DB ds then jt agg ds λ v=>K v M else False else False
     | _,_=>False
   | none=>False
  | .n7 cs=>match part cs 0 n with
   | some ds=>fL ds λ ds=>bif DB ds then jt agg ds λ v=>K v M else False
   | none=>False
  | _=>False
 | .st n x v=>ZZ tm M K n x v
 | .il s n x v=>match ex tm x with
  | .ptr key 0 _ _=>(match b8 M key with
   | some (s',_)=>bif Nat.beq s' s then ZZ tm M K n x v else False
   | none=>False)
  | _=>False
 | .l7 f xs=>OV tm xs λ vs=>bif vs.all dq then AC L f (vs.map oe) λ r=>BQ r λ r=>K r M else False
 | .mk s z bytes zero l c=>match ex tm l,ex tm c with
  | .int _ a,.int _ b=>bif Nat.beq zero.length z then bif DB zero then match zero with
   | [.nil]=>bif D5 s then DP a b bytes λ rows n=>FU s tm M λ k=>K (.row k 0 z 0 n) ((k,s,.mx rows)::M) else False
   | zero=>bif D5 s then (BS a b bytes zero λ es n=>FU s tm M λ k=>K (.row k 0 z 0 n) ((k,s,.rw z es)::M)) else False else False else False
  | _,_=>False
 | .de z x lo hi=>UX tm lo λ lo=>UX tm hi λ hi=>match ex tm x with
  | .sl l es=>CK z es lo hi λ es=>K (.sl l es) M
  | .row key t z' off len=>bif Nat.beq z' z then BP lo hi len λ a h=>K (.row key t z (off+a) (h-a)) M else False
  | .nil=>(match lo,hi with
   | none,none=>K .nil M
   | some a,none=>AX (a=0) (K .nil M)
   | none,some h=>AX (h=0) (K .nil M)
   | some a,some h=>AX (a=0/\h=0) (K .nil M))
  | _=>False
 | .ext x i=>match ex tm x with
  | .e7 vs=>f2 (pt vs i) λ v=>K v M
  | _=>False
 | .len x=>match ex tm x with
  | .sl _ es=>AP es λ n=>K (.int .i64 (n:Int)) M
  | .nil=>K (.int .i64 0) M
  | .row _ _ _ _ n=>K (.int .i64 (n:Int)) M
  | _=>False
 | .mm mx xs=>match NH tm xs with
  | .int k a::r=>O2 mx k (λ v=>K v M) a r
  | _=>False
 | .app s z bytes x y=>bif Nat.ble 800000 s then False else (
  match OB M (ex tm y) with
  | some (ky,some (k2,z2,n2))=>match ex tm x with
   | .row key 0 z' off len=>bif Nat.beq off 0 then bif Nat.beq z' 1 then bif Nat.beq z 1 then bif Nat.beq key k2 then False else bif Nat.beq key ky then False else bif Nat.beq k2 ky then False else (match b8 M k2 with
    | some (_,.rw z3 es)=>bif Nat.beq z2 z3 then (match b8 M key with
     | some (s',.mx rows)=>fM (m5 key (m5 k2 (m5 ky M))) λ M'=>AX (n2=es.length) (DU rows len (some (z2,es)) bytes λ bf n=>FU s tm M λ k=>K (.row k 0 z 0 n) ((k,s',.mx bf)::M'))
     | _=>False) else False
    | _=>False) else False else False else False
   | .nil=>bif D5 s then bif Nat.beq z 1 then (match b8 M k2 with
    | some (_,.rw z3 es)=>bif Nat.beq z2 z3 then fM (m5 k2 M) λ M'=>AX (n2=es.length/\bytes<=140737488355328) (FU s tm M λ k=>K (.row k 0 z 0 1) ((k,s,.mx [some (z2,es)])::M')) else False
    | _=>False) else False else False
   | _=>False
  | some (ky,none)=>match ex tm x with
   | .row key 0 z' off len=>bif Nat.beq off 0 then bif Nat.beq z' 1 then bif Nat.beq z 1 then bif Nat.beq key ky then False else (match b8 M key with
     | some (s',.mx rows)=>fM (m5 key M) λ M'=>DU rows len none bytes λ bf n=>FU s tm M λ k=>K (.row k 0 z 0 n) ((k,s',.mx bf)::M')
     | _=>False) else False else False else False
   | .nil=>bif D5 s then bif Nat.beq z 1 then AX (bytes<=140737488355328) (FU s tm M λ k=>K (.row k 0 z 0 1) ((k,s,.mx [none])::M)) else False else False
   | _=>False
  | none=>UC M (ex tm y) λ ys=>match ex tm x with
   | .row key 0 z' off len=>bif Nat.beq off 0 then bif Nat.beq z' z then (match b8 M key with
    | some (s',.rw bz es)=>bif Nat.beq bz z then fM (m5 key M) λ M'=>(BR es len ys z bytes λ es' n=>FU s tm M λ k=>K (.row k 0 z 0 n) ((k,s',.rw z es')::M')) else False
    | _=>False) else False else False
   | .row key (i+1) z' off len=>bif Nat.beq off 0 then bif Nat.beq z' z then (match b8 M key with
    | some (sk,.mx rows)=>fM (m5 key M) λ M'=>CE rows i λ bz es=>bif Nat.beq bz z then (BR es len ys z bytes λ es' n => ∀ s' v,FU s tm M λ k=>K (.row k 0 z 0 n) ((k,s',.rw z es')::(key,sk,.hx i v (rows.set i none))::M')) else False
    | _=>False) else False else False
   | .nil=>bif D5 s then CX ys z bytes λ es n=>FU s tm M λ k=>K (.row k 0 z 0 n) ((k,s,.rw z es)::M) else False
   | _=>False)
 | .call f xs=>SS tm M a7 xs λ vs=>AC L f vs λ r=>K r M
 | .c4 f xs=>match a7 with
  | [s]=>OV tm xs λ vs=>nR L s f vs tm M K
  | _=>OV tm xs λ vs=>A5 L f vs tm M K
 | .n6 s f xs=>bif D5 s then ZS tm M a7 xs λ vs=>DE L f vs λ z es n=>FU s tm M λ k=>K (.row k 0 z 0 n) ((k,s,.rw z es)::M) else False
 | .kn ne x=>match ex tm x with
  | .nil=>fB (xor true ne) λ c=>K (.bool c) M
  | .w6 (.bool b)=>fB (xor b ne) λ c=>K (.bool c) M
  | .sl _ es=>AX (es≠[]) (fB (xor false ne) λ c=>K (.bool c) M)
  | .row _ _ _ _ n=>AX (0<n) (fB (xor false ne) λ c=>K (.bool c) M)
  | _=>False
 | .bad=>False
 | .w5 s f xs=>OV tm xs λ vs=>match vs with
  | .ptr key 0 0 0::rest=>bif UK rest then nS L s f key rest M K else False
  | _=>False
 | .bn tb x=>match ex tm x with
  | .int _ n=>N9 tb n λ v=>K (.int .u8 v) M
  | _=>False
 | .jb p f xs=>YQ tm xs λ cs=>K (.fn (p&&cs.isEmpty) f (L.num f) cs) M
 | .l8 x xs=>match ex tm x with
  | .fn true f g []=>AX (g=L.num f) (SS tm M [] xs λ vs=>AC L f vs λ r=>K r M)
  | .fn true f g (c::cs)=>AX (g=L.num f) (M3 true M [] (.agg (c::cs)) λ v=>SS tm M [] xs λ vs=>AC L f (v::vs) λ r=>K r M)
  | .fn false f g cs=>bif SC cs then AX (g=L.num f) (OV tm xs λ vs=>fL (vs++cs) λ vs=>A5 L f vs tm M K) else False
  | _=>False
def wc (key:Nat):Tm->Tm
 | []=>[]
 | (j,v)::r=>bif NE key v then (j,.any)::wc key r else (j,v)::wc key r
def xk (v:AV) (tm:Tm) (K:Tm->Prop):Prop:=match v with
 | .row key (_+1) _ _ _=>fT (wc key tm) K
 | _=>K tm
noncomputable def XI (L:Lib) (o:AI) (ih:(Tm->Mem->Prop)->Tm->Mem->Prop) (K:Tm->Mem->Prop) (tm:Tm) (M:Mem):Prop:=match o with
 | ⟨some d,.app s z b x y,none,a7⟩=>XE L tm M a7 (λ v M=>xk (ex tm x) tm λ tm=>ih K ((d,v)::tm) M) (.app s z b x y)
 | ⟨some d,op,none,a7⟩=>XE L tm M a7 (λ v M=>ih K ((d,v)::tm) M) op
 | ⟨none,op,none,a7⟩=>XE L tm M a7 (λ_ M=>ih K tm M) op
 | ⟨dst,op,some (g,w),a7⟩=>match tg tm g with
  | .bool b=>fB (b == w) λ c=>match c,dst with
   | true,some d=>XE L tm M a7 (λ v M=>ih K ((d,v)::tm) M) op
   | true,none=>XE L tm M a7 (λ_ M=>ih K tm M) op
   | false,some d=>ih K ((d,.e7 [])::tm) M
   | false,none=>ih K tm M
  | .e7 []=>match dst with
   | some d=>ih K ((d,.e7 [])::tm) M
   | none=>ih K tm M
  | _=>False
noncomputable def XO (L:Lib) (l:List AI):(Tm->Mem->Prop)->Tm->Mem->Prop :=
 List.rec (motive:=λ_=>(Tm->Mem->Prop)->Tm->Mem->Prop) (λ K tm M=>K tm M) (λ o _ ih K tm M=>XI L o ih K tm M) l
noncomputable def XS (L:Lib) (Q:Tm->Mem->Prop) (ih:List It->Tm->Mem->Prop) (k:List It) (tm:Tm) (M:Mem):Prop:=match k with
 | []=>Q tm M
 | it::k=>match it with
  | .c7 _=>ih k tm M
  | .gq ts ss=>fN (mask 0 ts) λ m=>fT (om m tm) λ tm=>match ss with
   | []=>ih k tm M
   | _::_=>False
  | .lp c=>AA L (.lp c::k) tm M Q
  | .code c=>match c with
   | .skip=>ih k tm M
   | .ops l _=>XO L l (λ tm M=>ih k tm M) tm M
   | .dr c ts ss=>ih (.code c :: .gq ts ss::k) tm M
   | .scope c=>ih (.code c::k) tm M
   | .seq a b=>ih (.code a :: .code b::k) tm M
   | .cond x a b=>match ex tm x with
    | .bool b'=>fB b' λ c=>match c with
     | true=>ih (.code a::k) tm M
     | false=>ih (.code b::k) tm M
    | _=>False
   | .block id c=>ih (.code c :: .c7 id::k) tm M
   | .loop c=>AA L (.lp c::k) tm M Q
   | .exit id=>match EG id k with
    | some k'=>ih k' tm M
    | none=>False
   | .ret=>Q tm M
noncomputable def XK (L:Lib) (Q:Tm->Mem->Prop) (n:Nat):List It->Tm->Mem->Prop :=
 Nat.rec (motive:=λ_=>List It->Tm->Mem->Prop) (λ k tm M=>AA L k tm M Q) (λ_ ih k tm M=>XS L Q ih k tm M) n
def SL (tm:Tm) (M:Mem) (r:HU) (K:AV->Prop):Prop:=match r with
 | .tmp t=>f2 (tg tm t) K
 | .cell t agg n=>match tg tm t with
  | .ptr key 0 i j=>match b8 M key with
   | some (_,.bx cs)=>bif Nat.beq i 0 then (match part cs j n with
    | some ds=>fL ds λ ds=>jt agg ds K
    | none=>False) else False
   | _=>False
  | _=>False
noncomputable def U8 (tm:Tm) (M:Mem) (l:List HU):(List AV->Prop)->Prop :=
 List.rec (motive:=λ_=>(List AV->Prop)->Prop) (λ K=>K []) (λ x _ ih K=>SL tm M x λ v=>ih λ vs=>K (v::vs)) l
noncomputable def ZP (q:Bool) (M:Mem) (l:List AV):(List AV->Prop)->Prop :=
 List.rec (motive:=λ_=>(List AV->Prop)->Prop) (λ K=>K []) (λ x _ ih K=>M3 q M [] x λ v=>ih λ vs=>K (v::vs)) l
def Hv (vs:List AV) (K:AV->Prop):Prop:=match vs with
 | [v]=>K v
 | vs=>K (.e7 vs)
def AL (a r:AV):Prop:=a=r/\AZ r
noncomputable def NC (fn:AFn) (r:AV) (tm:Tm) (M:Mem):Prop:=U8 tm M fn.res λ vs=>ZP false M vs λ vs=>Hv vs λ v=>AL v r
end Go.c8
