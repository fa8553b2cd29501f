/-
  Functions of the program, as the abstract machine reads them (group LawL). Written by a program (gen.py) off the model's own reading of the translation; the seat's check ties them to it.
-/
import Derived.Test.YtiadddpcmkfpjaaGreatB1
import Derived.Test.YtiadddpcmkfpjaaGreatB4
import Derived.IntWalk
set_option linter.unusedSimpArgs false
set_option linter.unusedVariables false
set_option linter.unnecessarySimpa false
namespace Go.Eng.F
open C
namespace law14_awake
def r0:List AI:=[o 0 (.mov (.c (.bool false)))]
def r1:List AI:=[o 11 (.call 124 [(k 0)]),o 12 (.call 124 [(k 0)]),o 13 (.call 124 [(k 1)]),
 o 14 (.build [(.bool false),.nil,.nil,(.bool false),.nil,.nil,(.bool false),.nil,.nil] [(0,3,11),(3,3,12),(6,3,13)]),o 15 (.call 124 [(k 1)]),
 o 16 (.call 124 [(k 2)]),o 17 (.call 124 [(k 1)]),
 o 18 (.build [(.bool false),.nil,.nil,(.bool false),.nil,.nil,(.bool false),.nil,.nil] [(0,3,15),(3,3,16),(6,3,17)]),
 o 19 (.bslice 19 9 [14,18]),m 1 19]
def r2:List AI:=[m 21 1,o 22 (.call 266 [21,(k 0)]),m 20 22,o 23 (.ext 20 0),o 24 (.ext 20 1),o 25 (.ext 20 2),o 3 (.alloc 3 [(.bool false),.nil,.nil]),m 2 23,
 n (.st 3 3 24),m 4 25]
def r3:List AI:=[m 27 1,o 28 (.call 266 [27,(k 1)]),m 26 28,o 29 (.ext 26 0),o 30 (.ext 26 1),o 31 (.ext 26 2),o 6 (.alloc 6 [(.bool false),.nil,.nil]),m 5 29,
 n (.st 3 6 30),m 7 31]
def r4:List AI:=[m 33 1,o 34 (.call 266 [33,(k 2)]),m 32 34,o 35 (.ext 32 0),o 36 (.ext 32 1),o 37 (.ext 32 2),o 9 (.alloc 9 [(.bool false),.nil,.nil]),m 8 35,
 n (.st 3 9 36),m 10 37]
def r5:List AI:=[m 38 4,o 39 (.bin .eql 38 (k 0)),m 40 39,g 41 40 true (.mov 7),g 42 40 true (.bin .eql 41 (k 0)),o 43 (.pick 40 42 (.c (.bool false))),m 44 43,
 g 45 44 true (.mov 10),g 46 44 true (.bin .eql 45 (k 11)),o 47 (.pick 44 46 (.c (.bool false))),m 48 47,g 49 48 true (.mov 2),
 g 50 48 true (.call 124 [(k 1)]),g 51 48 true (.bslice 51 3 [50]),g 52 48 true (.call 172 [49,51]),o 53 (.pick 48 52 (.c (.bool false))),m 54 53,
 g 55 54 true (.ld true 3 3),g 56 54 true (.call 124 [(k 2)]),g 57 54 true (.call 158 [55,56]),o 58 (.pick 54 57 (.c (.bool false))),m 59 58,
 g 60 59 true (.mov 5),g 61 59 true (.call 124 [(k 0)]),g 62 59 true (.call 124 [(k 2)]),g 63 59 true (.bslice 63 3 [61,62]),
 g 64 59 true (.call 172 [60,63]),o 65 (.pick 59 64 (.c (.bool false))),m 66 65,g 67 66 true (.ld true 3 6),g 68 66 true (.call 124 [(k 0)]),
 g 69 66 true (.call 158 [67,68]),o 70 (.pick 66 69 (.c (.bool false))),m 71 70,g 72 71 true (.mov 1),g 73 71 true (.call 261 [72]),
 o 74 (.pick 71 73 (.c (.bool false))),m 0 74]
def c:ACode:=(.seq (.dr (.ops r0 false) [0] []) (.seq (.dr (.ops r1 false) [11,12,13,14,15,16,17,18,19] []) (.seq (.dr (.ops r2 false) [20,21,22,23,24,25] []) (.seq (.dr (.ops r3 false) [26,27,28,29,30,31] []) (.seq (.dr (.ops r4 false) [8,9,32,33,34,35,36,37] []) (.seq (.dr (.ops r5 true) [1,2,3,4,5,6,7,10,38,39,40,41,42,43,44,45,46,47,48,49,50,51,52,53,54,55,56,57,58,59,60,61,62,63,64,65,66,67,68,69,70,71,72,73,74] []) .ret))))))
end law14_awake
def law14_awake:AFn:=⟨0,law14_awake.c,[.tmp 0],false⟩
namespace law14_LeastBest
def r0:List AI:=[o 6 (.mov (.c (.bool false)))]
def r1:List AI:=[m 17 0,o 18 (.call 255 [17]),m 7 18]
def r2:List AI:=[m 19 2,o 20 (.conv .i64 19),o 21 (.bin .rem 20 (k 5)),m 8 21]
def r3:List AI:=[m 23 7,m 24 8,o 25 (.call 266 [23,24]),m 22 25,o 26 (.ext 22 0),o 27 (.ext 22 1),o 28 (.ext 22 2),o 10 (.alloc 10 [(.bool false),.nil,.nil]),m 9 26,
 n (.st 3 10 27),m 11 28]
def r4:List AI:=[m 29 11,o 30 (.bin .neq 29 (k 0))]
def r5:List AI:=[o 31 (.call 269 []),m 32 31,g 33 32 true (.mov 7),g 34 32 true (.len 33),g 35 32 true (.mov 8),g 36 32 true (.bin .add 35 (k 1)),
 g 37 32 true (.bin .lss 34 36),o 38 (.pick 32 37 (.c (.bool false))),m 6 38]
def r6:List AI:=[m 39 9,m 40 1,m 41 8,o 42 (.call 254 [40,41]),o 43 (.call 193 [39,42]),m 12 43]
def r7:List AI:=[m 45 7,m 46 12,o 47 (.call 262 [45,46]),m 44 47,o 48 (.ext 44 0),o 49 (.ext 44 1),o 13 (.alloc 13 [(.bool false),.nil,.nil]),n (.st 3 13 48),m 14 49]
def r8:List AI:=[m 51 7,m 52 9,o 53 (.call 262 [51,52]),m 50 53,o 54 (.ext 50 0),o 55 (.ext 50 1),o 15 (.alloc 15 [(.bool false),.nil,.nil]),n (.st 3 15 54),m 16 55]
def r9:List AI:=[o 56 (.call 269 []),m 57 56,g 58 57 true (.mov 14),g 59 57 true (.bin .eql 58 (k 0)),o 60 (.pick 57 59 (.c (.bool false))),m 61 60,g 62 61 true (.mov 16),
 g 63 61 true (.bin .eql 62 (k 0)),o 64 (.pick 61 63 (.c (.bool false))),m 65 64,g 66 65 true (.ld true 3 10),g 67 65 true (.ld true 3 15),
 g 68 65 true (.call 158 [66,67]),o 69 (.pick 65 68 (.c (.bool false))),m 70 69,g 71 70 true (.mov 9),g 72 70 true (.mov 12),
 g 73 70 true (.call 173 [71,72]),g 74 70 true (.mov 73),g 75 74 true (.ld true 3 10),g 76 74 true (.ld true 3 13),g 77 74 true (.call 158 [75,76]),
 g 78 70 true (.pick 74 77 (.c (.bool false))),g 79 70 true (.mov 78),g 80 79 false (.mov 9),g 81 79 false (.mov 12),g 82 79 false (.call 173 [80,81]),
 g 83 79 false (.un .not 82),g 84 79 false (.mov 83),g 85 84 true (.ld true 3 10),g 86 84 true (.ld true 3 13),g 87 84 true (.call 268 [85,86]),
 g 88 79 false (.pick 84 87 (.c (.bool false))),g 89 70 true (.pick 79 (.c (.bool true)) 88),o 90 (.pick 70 89 (.c (.bool false))),m 6 90]
def c:ACode:=(.seq (.dr (.ops r0 false) [6] []) (.seq (.dr (.ops r1 false) [0,17,18] []) (.seq (.dr (.ops r2 false) [2,19,20,21] []) (.seq (.dr (.ops r3 false) [22,23,24,25,26,27,28] []) (.seq (.seq (.dr (.ops r4 false) [11,29] []) (.cond 30 (.seq (.dr (.ops r5 false) [1,7,8,9,10,30,31,32,33,34,35,36,37,38] []) .ret) .skip)) (.seq (.dr (.ops r6 false) [1,8,30,39,40,41,42,43] []) (.seq (.dr (.ops r7 false) [44,45,46,47,48,49] []) (.seq (.dr (.ops r8 false) [7,50,51,52,53,54,55] []) (.seq (.dr (.ops r9 false) [9,10,12,13,14,15,16,56,57,58,59,60,61,62,63,64,65,66,67,68,69,70,71,72,73,74,75,76,77,78,79,80,81,82,83,84,85,86,87,88,89,90] []) .ret)))))))))
end law14_LeastBest
def law14_LeastBest:AFn:=⟨3,law14_LeastBest.c,[.tmp 6],false⟩
structure LawLLib (L:Lib):Prop extends LsqGLib L,GrdGLib L,R05HLib L where
 law14_awake:L 269=some F.law14_awake
 law14_LeastBest:L 271=some F.law14_LeastBest
end Go.Eng.F
namespace Go.Eng
section
variable {L:Lib}
def Cl.le (C C':Cl):Prop:=(∀ f vs r,C.pure f vs=some r→C'.pure f vs=some r)∧(∀ f vs o r,C.inn f vs o=some r→C'.inn f vs o=some r)∧C.num=C'.num
theorem adoptR_mono {x y:Option (AV × Own)} {r:Nat × List (List AV)} (h : ∀ q,x=some q→y=some q) (hr:adoptR x=some r):adoptR y=some r:=by
 cases x with
 | none=>simp [adoptR]at hr
 | some q=>rw[h q rfl];exact hr
theorem eff_mono {C C':Cl} (h:C.le C') {ban:List Nat} {ρ:Opd→AV} {own:Own} {op:AOp} {E:Eff} (he:eff C ban ρ own op=some E):eff C' ban ρ own op=some E:=by
 cases op with
 | call f xs =>
  simp only[eff]at he ⊢
  split at he
  ·rename_i vs hvs
   simp only[Option.map_eq_some_iff]at he ⊢
   obtain ⟨r,hr,rfl⟩:=he
   exact ⟨r,h.1 f vs r hr,rfl⟩
  ·cases he
 | calli f xs =>
  simp only[eff,Option.map_eq_some_iff]at he ⊢
  obtain ⟨r,hr,rfl⟩:=he
  exact ⟨r,h.2.1 f _ own r hr,rfl⟩
 | mkf p f xs=>simp only[eff]at he ⊢;rw[←h.2.2];exact he
 | cals s f xs =>
  simp only[eff,Option.map_eq_some_iff]at he ⊢
  obtain ⟨p,hp,rfl⟩:=he
  exact ⟨p,calsE_iff.2 fun o ho=>h.2.1 f _ o _ (calsE_iff.1 hp o ho),rfl⟩
 | callr s f xs =>
  simp only[eff]at he ⊢
  split at he
  ·rename_i vs hvs
   simp only[Option.map_eq_some_iff]at he ⊢
   obtain ⟨r,hr,rfl⟩:=he
   exact ⟨r,adoptR_mono (h.2.1 f vs Own.emp) hr,rfl⟩
  ·cases he
 | callq f xs =>
  simp only[eff]at he ⊢
  split at he
  ·rename_i hq
   rw[if_pos hq]
   split at he
   ·rename_i r hr
    rw[h.1 _ _ r hr]
    exact he
   ·cases he
  ·cases he
 | callv x xs =>
  simp only[eff]at he ⊢
  rw[←h.2.2]
  split at he
  ·split at he
   ·rename_i hg
    rw[if_pos hg]
    split at he
    ·split at he
     ·rename_i vs hvs
      simp only[Option.map_eq_some_iff]at he ⊢
      obtain ⟨r,hr,rfl⟩:=he
      exact ⟨r,h.1 _ vs r hr,rfl⟩
     ·cases he
    ·simp only[Option.map_eq_some_iff]at he ⊢
     obtain ⟨r,hr,rfl⟩:=he
     exact ⟨r,h.2.1 _ _ own r hr,rfl⟩
    ·cases he
   ·cases he
  ·cases he
 | _=>exact he
theorem stepI_mono {C C':Cl} (h:C.le C') {o:AI} {st st':St} (he:stepI C o st=some st'):stepI C' o st=some st':=by
 unfold stepI at he ⊢
 split at he
 ·simp only[Option.map_eq_some_iff]at he ⊢
  obtain ⟨E,h1,h2⟩:=he
  exact ⟨E,eff_mono h h1,h2⟩
 ·exact he
 ·exact he
theorem stepL_mono {C C':Cl} (h:C.le C') : ∀ {l:List AI} {st st':St},stepL C l st=some st'→stepL C' l st=some st'
 | [],st,st',he=>he
 | o::r,st,st',he=>by
  simp only[stepL]at he ⊢
  cases hs:stepI C o st with
  | none=>simp [hs]at he
  | some st1 =>
   rw[stepI_mono h hs]
   simp only[hs]at he
   exact stepL_mono h he
theorem run_mono {C C':Cl} (h:C.le C') : ∀ {n n':Nat} {k:List It} {st st':St},n≤n'→run C n k st=some st'→run C' n' k st=some st':=by
 intro n
 induction n with
 | zero=>intro n' k st st' _ hr;simp [run]at hr
 | succ n ih =>
  intro n' k st st' hn hr
  obtain ⟨q,rfl⟩ : ∃ q,n'=q+1:=⟨n'-1,by omega⟩
  have hq:n≤q:=by omega
  cases k with
  | nil=>exact hr
  | cons it k =>
   cases it with
   | blk id=>simp only[run]at hr ⊢;exact ih hq hr
   | drp ts ss=>simp only[run]at hr ⊢;exact ih hq hr
   | lp c=>simp only[run]at hr ⊢;exact ih hq hr
   | code c =>
    cases c with
    | skip=>simp only[run]at hr ⊢;exact ih hq hr
    | ops l d =>
     simp only[run]at hr ⊢
     cases hs:stepL C l st with
     | none=>simp [hs]at hr
     | some st1 =>
      rw[stepL_mono h hs]
      simp only[hs]at hr
      exact ih hq hr
    | dr c ts ss=>simp only[run]at hr ⊢;exact ih hq hr
    | scope c=>simp only[run]at hr ⊢;exact ih hq hr
    | seq a b=>simp only[run]at hr ⊢;exact ih hq hr
    | cond x a b =>
     simp only[run]at hr ⊢
     split at hr
     ·exact ih hq hr
     ·exact ih hq hr
     ·cases hr
    | block id c=>simp only[run]at hr ⊢;exact ih hq hr
    | loop c=>simp only[run]at hr ⊢;exact ih hq hr
    | exit id =>
     simp only[run]at hr ⊢
     split at hr
     ·exact ih hq hr
     ·cases hr
    | ret=>exact hr
theorem pureP_mono {I I':List AV→Option (AV × Own)} (hI : ∀ vs r,I vs=some r→I' vs=some r) {vs:List AV} {r:AV} (h:pureP I vs=some r):pureP I' vs=some r:=by
 unfold pureP at h ⊢
 cases he:I vs with
 | none=>simp [he]at h
 | some x=>rw[hI vs _ he];simpa [he] using h
theorem pureS_mono {b:Bool} {I I':List AV→Option (AV × Own)} (hI : ∀ vs r,I vs=some r→I' vs=some r) {vs:List AV} {r:AV} (h:pureS b I vs=some r):pureS b I' vs=some r:=by
 unfold pureS at h ⊢
 split at h
 ·split at h
  ·rename_i r1 r2 h1 h2
   rw[pureP_mono hI h1,pureP_mono hI h2]
   exact h
  ·cases h
 ·exact pureP_mono hI h
theorem ev_mono : ∀ (n:Nat),(clAt L n).le (clAt L (n+1)):=by
 have inn : ∀ n,(∀ f vs o r,evI L n f vs o=some r→evI L (n+1) f vs o=some r) → ∀ f vs r,evP L n f vs=some r→evP L (n+1) f vs=some r:=by
  intro n hI f vs r h
  exact pureS_mono (fun vs r h=>hI f vs _ r h) h
 intro n
 induction n with
 | zero =>
  have : ∀ f vs o r,evI L 0 f vs o=some r→evI L 1 f vs o=some r:=fun f vs o r h=>by simp [evI]at h
  exact ⟨inn 0 this,this,rfl⟩
 | succ n ih =>
  have : ∀ f vs o r,evI L (n+1) f vs o=some r→evI L (n+2) f vs o=some r:=fun f vs o r h=>by
   rw[evI_succ]at h ⊢
   cases hL:L f with
   | none=>simp [hL]at h
   | some fn =>
    simp only[hL]at h ⊢
    split at h
    ·rename_i hp
     rw[if_pos hp]
     cases hr:run (clAt L n) n [.code fn.body] ⟨initTm 0 vs,o⟩ with
     | none=>simp [hr]at h
     | some st =>
      rw[run_mono ih (Nat.le_succ n) hr]
      simpa [hr] using h
    ·cases h
  exact ⟨inn (n+1) this,this,rfl⟩
theorem cl_le {n n':Nat} (h:n≤n'):(clAt L n).le (clAt L n'):=by
 induction h with
 | refl=>exact ⟨fun _ _ _ h=>h,fun _ _ _ _ h=>h,rfl⟩
 | step _ ih=>exact ⟨fun f vs r h=>(ev_mono _).1 f vs r (ih.1 f vs r h),fun f vs o r h=>(ev_mono _).2.1 f vs o r (ih.2.1 f vs o r h),rfl⟩
def Ev (L:Lib) (f:Nat) (vs:List AV) (r:AV):Prop := ∃ n,evP L n f vs=some r
def EvD (L:Lib) (f:Nat) (vs:List AV) (r:AV):Prop := ∃ n,pureP (fun vs=>evI L n f vs Own.emp) vs=some r
def EvI (L:Lib) (f:Nat) (vs:List AV) (o:Own) (r:AV) (o':Own):Prop := ∃ n,evI L n f vs o=some (r,o')
def EvR (L:Lib) (f:Nat) (vs:List AV) (z:Nat) (es:List (List AV)):Prop := ∃ n,adoptR (evI L n f vs Own.emp)=some (z,es)
theorem Ev.det {f:Nat} {vs:List AV} {r r':AV} (h:Ev L f vs r) (h':Ev L f vs r'):r=r':=by
 obtain ⟨n,hn⟩:=h
 obtain ⟨n',hn'⟩:=h'
 have h1:=(cl_le (L:=L) (Nat.le_max_left n n')).1 f vs r hn
 have h2:=(cl_le (L:=L) (Nat.le_max_right n n')).1 f vs r' hn'
 rw[h1]at h2
 exact Option.some.inj h2
theorem EvI.det {f:Nat} {vs:List AV} {o:Own} {r r':AV} {o1 o2:Own} (h:EvI L f vs o r o1) (h':EvI L f vs o r' o2):r=r'∧o1=o2:=by
 obtain ⟨n,hn⟩:=h
 obtain ⟨n',hn'⟩:=h'
 have h1:=(cl_le (L:=L) (Nat.le_max_left n n')).2.1 f vs o _ hn
 have h2:=(cl_le (L:=L) (Nat.le_max_right n n')).2.1 f vs o _ hn'
 rw[h1]at h2
 simpa using h2
def AK (L:Lib) (k:List It) (st:St) (Q:St→Prop):Prop := ∃ n c st',run (clAt L c) n k st=some st'∧Q st'
def AO (L:Lib) (l:List AI) (k:List It) (st:St) (Q:St→Prop):Prop := ∃ n c st1 st',stepL (clAt L c) l st=some st1∧run (clAt L c) n k st1=some st'∧Q st'
variable {k:List It} {st:St} {Q:St→Prop}
theorem AK_step {it:It} {k':List It} {st1:St} (h : ∀ (C:Cl) (n:Nat),run C (n+1) (it::k) st=run C n k' st1):AK L (it::k) st Q↔AK L k' st1 Q:=by
 constructor
 ·rintro ⟨n,c,st',hr,hq⟩
  cases n with
  | zero=>simp [run]at hr
  | succ n=>exact ⟨n,c,st',by rw[←h];exact hr,hq⟩
 ·rintro ⟨n,c,st',hr,hq⟩
  exact ⟨n+1,c,st',by rw[h];exact hr,hq⟩
theorem AK_nil:AK L [] st Q↔Q st:=by
 constructor
 ·rintro ⟨n,c,st',hr,hq⟩
  cases n with
  | zero=>simp [run]at hr
  | succ n=>simp only[run,Option.some.injEq]at hr;exact hr ▸ hq
 ·exact fun h=>⟨1,0,st,rfl,h⟩
theorem AK_blk {id:Nat}:AK L (.blk id::k) st Q↔AK L k st Q:=AK_step fun _ _=>rfl
theorem AK_drp {ts ss:List Nat}:AK L (.drp ts ss::k) st Q↔AK L k ⟨tdrop st.tm ts,st.own.drop ss⟩ Q:=AK_step fun _ _=>rfl
theorem AK_lp {c:ACode}:AK L (.lp c::k) st Q↔AK L (.code c :: .lp c::k) st Q:=AK_step fun _ _=>rfl
theorem AK_skip:AK L (.code .skip::k) st Q↔AK L k st Q:=AK_step fun _ _=>rfl
theorem AK_dr {c:ACode} {ts ss:List Nat}:AK L (.code (.dr c ts ss)::k) st Q↔AK L (.code c :: .drp ts ss::k) st Q:=AK_step fun _ _=>rfl
theorem AK_scope {c:ACode}:AK L (.code (.scope c)::k) st Q↔AK L (.code c::k) st Q:=AK_step fun _ _=>rfl
theorem AK_seq {a b:ACode}:AK L (.code (.seq a b)::k) st Q↔AK L (.code a :: .code b::k) st Q:=AK_step fun _ _=>rfl
theorem AK_block {id:Nat} {c:ACode}:AK L (.code (.block id c)::k) st Q↔AK L (.code c :: .blk id::k) st Q:=AK_step fun _ _=>rfl
theorem AK_loop {c:ACode}:AK L (.code (.loop c)::k) st Q↔AK L (.code c :: .lp c::k) st Q:=AK_step fun _ _=>rfl
theorem AK_exit {id:Nat} {k':List It} (h:exitA id k=some k'):AK L (.code (.exit id)::k) st Q↔AK L k' st Q:=AK_step fun C n=>by simp [run,h]
theorem AK_ret:AK L (.code .ret::k) st Q↔Q st:=by
 constructor
 ·rintro ⟨n,c,st',hr,hq⟩
  cases n with
  | zero=>simp [run]at hr
  | succ n=>simp only[run,Option.some.injEq]at hr;exact hr ▸ hq
 ·exact fun h=>⟨1,0,st,rfl,h⟩
theorem AK_cond {x:Opd} {a b:ACode} {t:Bool} (h:st.ev x = .bool t):AK L (.code (.cond x a b)::k) st Q↔if t=true then AK L (.code a::k) st Q else AK L (.code b::k) st Q:=by
 cases t
 ·simpa using AK_step (k' := .code b::k) (st1:=st) fun C n=>by simp [run,h]
 ·simpa using AK_step (k' := .code a::k) (st1:=st) fun C n=>by simp [run,h]
theorem AK_ops {l:List AI} {d:Bool}:AK L (.code (.ops l d)::k) st Q↔AO L l k st Q:=by
 constructor
 ·rintro ⟨n,c,st',hr,hq⟩
  cases n with
  | zero=>simp [run]at hr
  | succ n =>
   simp only[run]at hr
   split at hr
   ·rename_i st1 hs
    exact ⟨n,c,st1,st',hs,hr,hq⟩
   ·cases hr
 ·rintro ⟨n,c,st1,st',hs,hr,hq⟩
  exact ⟨n+1,c,st',by simp [run,hs,hr],hq⟩
theorem AO_nil:AO L [] k st Q↔AK L k st Q:=by
 constructor
 ·rintro ⟨n,c,st1,st',hs,hr,hq⟩
  simp only[stepL,Option.some.injEq]at hs
  exact ⟨n,c,st',hs ▸ hr,hq⟩
 ·rintro ⟨n,c,st',hr,hq⟩
  exact ⟨n,c,st,st',rfl,hr,hq⟩
theorem AO_step {o:AI} {l:List AI} {st1:St} (h : ∀ C,stepI C o st=some st1):AO L (o::l) k st Q↔AO L l k st1 Q:=by
 constructor
 ·rintro ⟨n,c,st2,st',hs,hr,hq⟩
  simp only[stepL,h]at hs
  exact ⟨n,c,st2,st',hs,hr,hq⟩
 ·rintro ⟨n,c,st2,st',hs,hr,hq⟩
  exact ⟨n,c,st2,st',by simpa only[stepL,h] using hs,hr,hq⟩
theorem AO_not {d:Option Nat} {op:AOp} {g:Option (Nat × Bool)} {ban:List Nat} {l:List AI} (h:guardA st g=some false):AO L (⟨d,op,g,ban⟩::l) k st Q↔AO L l k (st.dst d (.tup [])) Q :=
 AO_step fun C=>by simp [stepI,h]
theorem clAt_num (c:Nat):(clAt L c).num=L.num:=rfl
theorem AO_opL {d:Option Nat} {op:AOp} {g:Option (Nat × Bool)} {ban:List Nat} {l:List AI} {E:Eff} (h:guardA st g=some true) (he : ∀ c,eff (clAt L c) ban st.ev st.own op=some E):AO L (⟨d,op,g,ban⟩::l) k st Q↔AO L l k (st.app d E) Q:=by
 have h : ∀ c,stepI (clAt L c) ⟨d,op,g,ban⟩ st=some (st.app d E):=fun c=>by simp [stepI,h,he]
 constructor
 ·rintro ⟨n,c,st2,st',hs,hr,hq⟩
  simp only[stepL,h]at hs
  exact ⟨n,c,st2,st',hs,hr,hq⟩
 ·rintro ⟨n,c,st2,st',hs,hr,hq⟩
  exact ⟨n,c,st2,st',by simpa only[stepL,h] using hs,hr,hq⟩
theorem AO_call {d:Option Nat} {f:Nat} {xs:List Opd} {g:Option (Nat × Bool)} {ban:List Nat} {l:List AI} {vs:List AV} {r:AV} (h:guardA st g=some true) (hv:(xs.map st.ev).mapM (snapA (st.own.hide ban) true)=some vs) (hr:Ev L f vs r) :
  AO L (⟨d,.call f xs,g,ban⟩::l) k st Q↔AO L l k (st.dst d r) Q:=by
 have hst : ∀ c r',evP L c f vs=some r'→stepI (clAt L c) ⟨d,.call f xs,g,ban⟩ st=some (st.dst d r'):=fun c r' hc=>by
  have hc':(clAt L c).pure f vs=some r':=hc
  simp [stepI,h,eff,hv,hc',St.app]
 constructor
 ·rintro ⟨n,c,st2,st',hs,hrn,hq⟩
  simp only[stepL]at hs
  cases hI:stepI (clAt L c) ⟨d,.call f xs,g,ban⟩ st with
  | none=>simp [hI]at hs
  | some st1 =>
   simp only[hI]at hs
   cases hp:evP L c f vs with
   | none =>
    have hc':(clAt L c).pure f vs=none:=hp
    simp [stepI,h,eff,hv,hc']at hI
   | some r' =>
    obtain rfl:r'=r:=Ev.det ⟨c,hp⟩ hr
    rw[hst c r' hp]at hI
    obtain rfl:=Option.some.inj hI
    exact ⟨n,c,st2,st',hs,hrn,hq⟩
 ·rintro ⟨n,c,st2,st',hs,hrn,hq⟩
  obtain ⟨c',hc'⟩:=hr
  have l1:=cl_le (L:=L) (Nat.le_max_left c c')
  have l2:=cl_le (L:=L) (Nat.le_max_right c c')
  refine ⟨n,max c c',st2,st',?_,run_mono l1 (Nat.le_refl n) hrn,hq⟩
  simp only[stepL]
  rw[hst (max c c') r (l2.1 f vs r hc')]
  exact stepL_mono l1 hs
theorem AO_callp {d:Option Nat} {f:Nat} {x:Opd} {xs:List Opd} {g:Option (Nat × Bool)} {ban:List Nat} {l:List AI} {vs:List AV} {r:AV} (h:guardA st g=some true) (hx:st.ev x = .fn true f (L.num f) []) (hv:(xs.map st.ev).mapM (snapA st.own true)=some vs) (hr:Ev L f vs r) :
  AO L (⟨d,.callv x xs,g,ban⟩::l) k st Q↔AO L l k (st.dst d r) Q:=by
 have hst : ∀ c r',evP L c f vs=some r'→stepI (clAt L c) ⟨d,.callv x xs,g,ban⟩ st=some (st.dst d r'):=fun c r' hc=>by
  have hc':(clAt L c).pure f vs=some r':=hc
  simp [stepI,h,eff,hx,clAt_num,hv,hc',St.app]
 constructor
 ·rintro ⟨n,c,st2,st',hs,hrn,hq⟩
  simp only[stepL]at hs
  cases hI:stepI (clAt L c) ⟨d,.callv x xs,g,ban⟩ st with
  | none=>simp [hI]at hs
  | some st1 =>
   simp only[hI]at hs
   cases hp:evP L c f vs with
   | none =>
    have hc':(clAt L c).pure f vs=none:=hp
    simp [stepI,h,eff,hx,clAt_num,hv,hc']at hI
   | some r' =>
    obtain rfl:r'=r:=Ev.det ⟨c,hp⟩ hr
    rw[hst c r' hp]at hI
    obtain rfl:=Option.some.inj hI
    exact ⟨n,c,st2,st',hs,hrn,hq⟩
 ·rintro ⟨n,c,st2,st',hs,hrn,hq⟩
  obtain ⟨c',hc'⟩:=hr
  have l1:=cl_le (L:=L) (Nat.le_max_left c c')
  have l2:=cl_le (L:=L) (Nat.le_max_right c c')
  refine ⟨n,max c c',st2,st',?_,run_mono l1 (Nat.le_refl n) hrn,hq⟩
  simp only[stepL]
  rw[hst (max c c') r (l2.1 f vs r hc')]
  exact stepL_mono l1 hs
theorem AO_callq {d:Option Nat} {f:Nat} {xs:List Opd} {g:Option (Nat × Bool)} {ban:List Nat} {l:List AI} {r:AV} (h:guardA st g=some true) (hq:(xs.map st.ev).all dq=true) (hr:Ev L f ((xs.map st.ev).map unl) r) (hfl:FlatR r) :
  AO L (⟨d,.callq f xs,g,ban⟩::l) k st Q↔AO L l k (st.dst d (lnd r)) Q:=by
 have hst : ∀ c,evP L c f ((xs.map st.ev).map unl)=some r→stepI (clAt L c) ⟨d,.callq f xs,g,ban⟩ st=some (st.dst d (lnd r)):=fun c hc=>by
  have hc':(clAt L c).pure f ((xs.map st.ev).map unl)=some r:=hc
  simp only[stepI,h,eff]
  rw[if_pos hq,hc']
  simp only[if_pos hfl,Option.map_some,St.app]
 constructor
 ·rintro ⟨n,c,st2,st',hs,hrn,hq'⟩
  simp only[stepL]at hs
  cases hp:evP L c f ((xs.map st.ev).map unl) with
  | none =>
   have hc':(clAt L c).pure f ((xs.map st.ev).map unl)=none:=hp
   simp only[stepI,h,eff]at hs
   rw[if_pos hq,hc']at hs
   simp at hs
  | some r' =>
   obtain rfl:r'=r:=Ev.det ⟨c,hp⟩ hr
   rw[hst c hp]at hs
   exact ⟨n,c,st2,st',hs,hrn,hq'⟩
 ·rintro ⟨n,c,st2,st',hs,hrn,hq'⟩
  obtain ⟨c',hc'⟩:=hr
  have l1:=cl_le (L:=L) (Nat.le_max_left c c')
  have l2:=cl_le (L:=L) (Nat.le_max_right c c')
  refine ⟨n,max c c',st2,st',?_,run_mono l1 (Nat.le_refl n) hrn,hq'⟩
  simp only[stepL]
  rw[hst (max c c') (l2.1 f _ r hc')]
  exact stepL_mono l1 hs
theorem AO_callr {d:Option Nat} {s f:Nat} {xs:List Opd} {g:Option (Nat × Bool)} {ban:List Nat} {l:List AI} {vs:List AV} {z:Nat} {es:List (List AV)} (h:guardA st g=some true) (hv:(xs.map st.ev).mapM (snapN (st.own.hide ban) true)=some vs) (hr:EvR L f vs z es)
  (ha:AO L l k (st.app d (.new s ⟨z,es⟩ (fun t => .row s t z 0 es.length))) Q):AO L (⟨d,.callr s f xs,g,ban⟩::l) k st Q:=by
 obtain ⟨n,c,st2,st',hs,hrn,hq⟩:=ha
 obtain ⟨c',hc'⟩:=hr
 have l1:=cl_le (L:=L) (Nat.le_max_left c c')
 have l2:=cl_le (L:=L) (Nat.le_max_right c c')
 have hc2:adoptR ((clAt L (max c c')).inn f vs Own.emp)=some (z,es):=adoptR_mono (l2.2.1 f vs Own.emp) hc'
 refine ⟨n,max c c',st2,st',?_,run_mono l1 (Nat.le_refl n) hrn,hq⟩
 simp only[stepL]
 have:stepI (clAt L (max c c')) ⟨d,.callr s f xs,g,ban⟩ st=some (st.app d (.new s ⟨z,es⟩ (fun t => .row s t z 0 es.length))):=by
  simp only[stepI,h,eff,hv,hc2,Option.map_some]
 rw[this]
 exact stepL_mono l1 hs
def EvS (L:Lib) (s f:Nat) (vs:List AV) (q:Site) (r:AV) (q':Site):Prop := ∃ n,∀ o:Own,o s=q→evI L n f vs o=some (r,o.put s q')
theorem AO_cals {d:Option Nat} {s f:Nat} {xs:List Opd} {g:Option (Nat × Bool)} {ban:List Nat} {l:List AI} {r:AV} {q':Site} (h:guardA st g=some true) (hr:EvS L s f (xs.map st.ev) (st.own s) r q')
  (ha:AO L l k (st.app d (.upn s q' r)) Q):AO L (⟨d,.cals s f xs,g,ban⟩::l) k st Q:=by
 obtain ⟨n,c,st2,st',hs,hrn,hq⟩:=ha
 obtain ⟨c',hc'⟩:=hr
 have l1:=cl_le (L:=L) (Nat.le_max_left c c')
 have l2:=cl_le (L:=L) (Nat.le_max_right c c')
 have hc2:calsE (clAt L (max c c')) f (xs.map st.ev) s (st.own s)=some (r,q'):=calsE_iff.2 fun o ho=>l2.2.1 f _ o _ (hc' o ho)
 refine ⟨n,max c c',st2,st',?_,run_mono l1 (Nat.le_refl n) hrn,hq⟩
 simp only[stepL]
 have:stepI (clAt L (max c c')) ⟨d,.cals s f xs,g,ban⟩ st=some (st.app d (.upn s q' r)):=by
  simp only[stepI,h,eff,hc2,Option.map_some]
 rw[this]
 exact stepL_mono l1 hs
theorem AO_calli {d:Option Nat} {f:Nat} {xs:List Opd} {g:Option (Nat × Bool)} {ban:List Nat} {l:List AI} {r:AV} {o':Own} (h:guardA st g=some true) (hr:EvI L f (xs.map st.ev) st.own r o') :
  AO L (⟨d,.calli f xs,g,ban⟩::l) k st Q↔AO L l k { (st.dst d r) with own:=o' } Q:=by
 have hst : ∀ c r' o1,evI L c f (xs.map st.ev) st.own=some (r',o1)→stepI (clAt L c) ⟨d,.calli f xs,g,ban⟩ st=some { (st.dst d r') with own:=o1 }:=fun c r' o1 hc=>by
  have hc':(clAt L c).inn f (xs.map st.ev) st.own=some (r',o1):=hc
  simp [stepI,h,eff,hc',St.app]
 constructor
 ·rintro ⟨n,c,st2,st',hs,hrn,hq⟩
  simp only[stepL]at hs
  cases hI:stepI (clAt L c) ⟨d,.calli f xs,g,ban⟩ st with
  | none=>simp [hI]at hs
  | some st1 =>
   simp only[hI]at hs
   cases hp:evI L c f (xs.map st.ev) st.own with
   | none =>
    have hc':(clAt L c).inn f (xs.map st.ev) st.own=none:=hp
    simp [stepI,h,eff,hc']at hI
   | some x =>
    obtain ⟨r',o1⟩:=x
    obtain ⟨rfl,rfl⟩:=EvI.det ⟨c,hp⟩ hr
    rw[hst c r' o1 hp]at hI
    obtain rfl:=Option.some.inj hI
    exact ⟨n,c,st2,st',hs,hrn,hq⟩
 ·rintro ⟨n,c,st2,st',hs,hrn,hq⟩
  obtain ⟨c',hc'⟩:=hr
  have l1:=cl_le (L:=L) (Nat.le_max_left c c')
  have l2:=cl_le (L:=L) (Nat.le_max_right c c')
  refine ⟨n,max c c',st2,st',?_,run_mono l1 (Nat.le_refl n) hrn,hq⟩
  simp only[stepL]
  rw[hst (max c c') r o' (l2.2.1 f _ _ _ hc')]
  exact stepL_mono l1 hs
theorem AO_callv {d:Option Nat} {f:Nat} {cs:List AV} {x:Opd} {xs:List Opd} {g:Option (Nat × Bool)} {ban:List Nat} {l:List AI} {r:AV} {o':Own} (h:guardA st g=some true) (hx:st.ev x = .fn false f (L.num f) cs) (hr:EvI L f (xs.map st.ev++cs) st.own r o') :
  AO L (⟨d,.callv x xs,g,ban⟩::l) k st Q↔AO L l k { (st.dst d r) with own:=o' } Q:=by
 have hst : ∀ c r' o1,evI L c f (xs.map st.ev++cs) st.own=some (r',o1)→stepI (clAt L c) ⟨d,.callv x xs,g,ban⟩ st=some { (st.dst d r') with own:=o1 }:=fun c r' o1 hc=>by
  have hc':(clAt L c).inn f (xs.map st.ev++cs) st.own=some (r',o1):=hc
  simp [stepI,h,eff,hx,clAt_num,hc',St.app]
 constructor
 ·rintro ⟨n,c,st2,st',hs,hrn,hq⟩
  simp only[stepL]at hs
  cases hI:stepI (clAt L c) ⟨d,.callv x xs,g,ban⟩ st with
  | none=>simp [hI]at hs
  | some st1 =>
   simp only[hI]at hs
   cases hp:evI L c f (xs.map st.ev++cs) st.own with
   | none =>
    have hc':(clAt L c).inn f (xs.map st.ev++cs) st.own=none:=hp
    simp [stepI,h,eff,hx,clAt_num,hc']at hI
   | some x =>
    obtain ⟨r',o1⟩:=x
    obtain ⟨rfl,rfl⟩:=EvI.det ⟨c,hp⟩ hr
    rw[hst c r' o1 hp]at hI
    obtain rfl:=Option.some.inj hI
    exact ⟨n,c,st2,st',hs,hrn,hq⟩
 ·rintro ⟨n,c,st2,st',hs,hrn,hq⟩
  obtain ⟨c',hc'⟩:=hr
  have l1:=cl_le (L:=L) (Nat.le_max_left c c')
  have l2:=cl_le (L:=L) (Nat.le_max_right c c')
  refine ⟨n,max c c',st2,st',?_,run_mono l1 (Nat.le_refl n) hrn,hq⟩
  simp only[stepL]
  rw[hst (max c c') r o' (l2.2.1 f _ _ _ hc')]
  exact stepL_mono l1 hs
theorem AK_mono {Q':St→Prop} (h:AK L k st Q) (hq : ∀ s,Q s→Q' s):AK L k st Q':=by
 obtain ⟨n,c,st',hr,hh⟩:=h
 exact ⟨n,c,st',hr,hq _ hh⟩
theorem EvI.intro {f:Nat} {fn:AFn} {vs:List AV} {o:Own} {r:AV} {o':Own} (hL:L f=some fn) (hp:vs.length=fn.pars) (h:AK L [.code fn.body] ⟨initTm 0 vs,o⟩ (fun st=>(fn.res.mapM (resOf st)).map resVal=some r∧st.own=o')):EvI L f vs o r o':=by
 obtain ⟨n,c,st',hr,h1,h2⟩:=h
 refine ⟨max n c+1,?_⟩
 rw[evI_succ]
 simp only[hL,hp,if_true]
 rw[run_mono (cl_le (L:=L) (Nat.le_max_right n c)) (Nat.le_max_left n c) hr]
 cases hm:fn.res.mapM (resOf st') with
 | none=>rw[hm]at h1;cases h1
 | some rs =>
  rw[hm]at h1
  simp only[Option.map_some,Option.some.injEq]at h1
  simp [hm,h1,h2]
theorem EvD.intro {f:Nat} {fn:AFn} {vs:List AV} {r:AV} (hL:L f=some fn) (hp:vs.length=fn.pars) (h:AK L [.code fn.body] ⟨initTm 0 vs,Own.emp⟩ (fun st=>((fn.res.mapM (resOf st)).map resVal).bind (snapR st.own false)=some r∧Clean r)):EvD L f vs r:=by
 obtain ⟨n,c,st',hr,h1,h2⟩:=h
 cases hm:(fn.res.mapM (resOf st')).map resVal with
 | none=>rw[hm]at h1;cases h1
 | some r0 =>
  rw[hm]at h1
  simp only[Option.bind_some]at h1
  obtain ⟨q,hq⟩:=EvI.intro (o:=Own.emp) (r:=r0) (o':=st'.own) hL hp ⟨n,c,st',hr,hm,rfl⟩
  refine ⟨q,?_⟩
  unfold pureP
  simp [hq,h1,h2]
theorem EvD.ev {f:Nat} {fn:AFn} {vs:List AV} {r:AV} (hL:L f=some fn) (h:EvD L f vs r) (hs:fn.spl=false:=by rfl):Ev L f vs r:=by
 obtain ⟨n,h⟩:=h
 have hs:L.spl f=false:=by simp only[Lib.spl,hL,hs]
 exact ⟨n,by unfold evP pureS;rw[hs];exact h⟩
theorem EvD.cons {f:Nat} {q:Bool} {e:List AV} {es:List (List AV)} {vs:List AV} {r:AV} (h:EvD L f (.sl q (e::es)::vs) r):Ev L f (.sl q (e::es)::vs) r:=by
 obtain ⟨n,h⟩:=h
 refine ⟨n,?_⟩
 unfold evP pureS
 split
 ·rename_i heq;simp at heq
 ·exact h
theorem EvD.nil {f:Nat} {fn:AFn} {q:Bool} {vs:List AV} {r:AV} (hL:L f=some fn) (h1:EvD L f (.con (.bool true)::vs) r) (h2:EvD L f (.con (.bool false)::vs) r) (hs:fn.spl=true:=by rfl):Ev L f (.sl q []::vs) r:=by
 obtain ⟨n,h1⟩:=h1
 obtain ⟨n',h2⟩:=h2
 have hs:L.spl f=true:=by simp only[Lib.spl,hL,hs]
 have k1:=pureP_mono (fun vs r h=>(cl_le (L:=L) (Nat.le_max_left n n')).2.1 f vs Own.emp r h) h1
 have k2:=pureP_mono (fun vs r h=>(cl_le (L:=L) (Nat.le_max_right n n')).2.1 f vs Own.emp r h) h2
 refine ⟨max n n',?_⟩
 unfold evP pureS
 rw[hs]
 simp only
 have k1':pureP (fun vs=>evI L (max n n') f vs Own.emp) (.con (.bool true)::vs)=some r:=k1
 have k2':pureP (fun vs=>evI L (max n n') f vs Own.emp) (.con (.bool false)::vs)=some r:=k2
 rw[k1',k2']
 simp
theorem Ev.intro {f:Nat} {fn:AFn} {vs:List AV} {r:AV} (hL:L f=some fn) (hp:vs.length=fn.pars) (h:AK L [.code fn.body] ⟨initTm 0 vs,Own.emp⟩ (fun st=>((fn.res.mapM (resOf st)).map resVal).bind (snapR st.own false)=some r∧Clean r)) (hs:fn.spl=false:=by rfl):Ev L f vs r :=
 (EvD.intro hL hp h).ev hL hs
end
end Go.Eng

namespace Go.Eng
section
variable {L:Lib} {k:List It} {tm:Tm} {own:Own} {Q:St→Prop} {l:List AI} {ban:List Nat} {d:Nat}
theorem tget_cons (i:Nat) (v:AV) (r:Tm) (j:Nat):tget ((i,v)::r) j=if j=i then v else tget r j:=rfl
theorem tget_nil (j:Nat):tget [] j = .any:=rfl
theorem tdrop_cons (i:Nat) (v:AV) (r:Tm) (l:List Nat):tdrop ((i,v)::r) l=if l.contains i then tdrop r l else (i,v)::tdrop r l:=rfl
theorem tdrop_nil (l:List Nat):tdrop [] l=[]:=rfl
theorem initTm_cons (i:Nat) (v:AV) (r:List AV):initTm i (v::r)=(i,v)::initTm (i+1) r:=rfl
end
end Go.Eng

namespace Go.Eng
section
variable {L:Lib} {k:List It} {tm:Tm} {own:Own} {st:St} {Q:St→Prop} {l:List AI} {ban:List Nat} {d:Nat} {dst:Option Nat}
section
variable {x y:Opd} {kd:IntKind} {a b:Int}
end
def Res (fn:AFn) (r:AV) (st:St):Prop:=((fn.res.mapM (resOf st)).map resVal).bind (snapR st.own false)=some r∧Clean r
theorem Ev.fwd {f:Nat} {fn:AFn} {vs:List AV} {r:AV} (hL:L f=some fn) (hp:vs.length=fn.pars) (h:AK L [.code fn.body] ⟨initTm 0 vs,Own.emp⟩ (Res fn r)) (hs:fn.spl=false:=by rfl):Ev L f vs r:=Ev.intro hL hp h hs
theorem EvD.fwd {f:Nat} {fn:AFn} {vs:List AV} {r:AV} (hL:L f=some fn) (hp:vs.length=fn.pars) (h:AK L [.code fn.body] ⟨initTm 0 vs,Own.emp⟩ (Res fn r)):EvD L f vs r:=EvD.intro hL hp h
theorem Res.bool {fn:AFn} {st:St} (x:Bool) {r:AV} (h:((fn.res.mapM (resOf st)).map resVal).bind (snapR st.own false)=some (.bool x)) (e : .bool x=r):Res fn r st:=by
 subst e;exact ⟨h,by simp [Clean]⟩
theorem Res.int {fn:AFn} {st:St} (kd:IntKind) (x:Int) {r:AV} (h:((fn.res.mapM (resOf st)).map resVal).bind (snapR st.own false)=some (.int kd x)) (e : .int kd x=r):Res fn r st:=by
 subst e;exact ⟨h,by simp [Clean]⟩
end
attribute [irreducible] Res
end Go.Eng

namespace Go.Eng
def pw (n:Int):Int:=2^n.toNat
theorem pw_pos (n:Int):1≤pw n:=by
 have:0<pw n:=Int.pow_pos (by decide)
 omega
theorem shr_div {k2:IntKind} {a n:Int} (h:0≤n∧n≤63):intBin .shr .i64 a k2 n=some (.int .i64 (a/pw n)):=by
 have h2:=pw_pos n
 have e:(2:Int)^(min n.toNat IntKind.i64.bits)=pw n:=by
  have:min n.toNat IntKind.i64.bits=n.toNat:=by simp only[IntKind.bits];omega
  rw[this];rfl
 simp only[intBin]
 rw[if_neg (by omega),e,Int.fdiv_eq_ediv_of_nonneg _ (by omega)]
theorem tmod_pos {a m:Int} (hm:0<m):a.tmod m=if 0≤a∨a%m=0 then a%m else a%m-m:=by
 have h:=Int.tmod_eq_emod (a:=a) (b:=m)
 rw[h]
 have hd:m ∣ a↔a%m=0:=Int.dvd_iff_emod_eq_zero
 by_cases h0:0≤a∨a%m=0
 ·rw[if_pos h0,if_pos (by rcases h0 with h0|h0;exact Or.inl h0;exact Or.inr (hd.2 h0))];omega
 ·rw[if_neg h0,if_neg (fun h=>h0 (h.imp id hd.1))]
  have:(m.natAbs:Int)=m:=by omega
  omega
theorem tdiv_pos {a m:Int} (hm:0<m):a.tdiv m=if 0≤a∨a%m=0 then a/m else a/m+1:=by
 have h:=Int.tdiv_eq_ediv (a:=a) (b:=m)
 rw[h]
 have hd:m ∣ a↔a%m=0:=Int.dvd_iff_emod_eq_zero
 by_cases h0:0≤a∨a%m=0
 ·rw[if_pos h0,if_pos (by rcases h0 with h0|h0;exact Or.inl h0;exact Or.inr (hd.2 h0))];omega
 ·rw[if_neg h0,if_neg (fun h=>h0 (h.imp id hd.1)),Int.sign_eq_one_of_pos hm]
theorem ediv_range {a m:Int} (hm:1≤m) (h : -9223372036854775808≤a∧a≤9223372036854775807) : -9223372036854775808≤a/m∧a/m≤9223372036854775807:=by
 constructor
 ·rw[Int.le_ediv_iff_mul_le (by omega)]
  have:=Int.mul_le_mul_of_nonpos_left (a := -9223372036854775808) (b:=m) (c:=1) (by omega) hm
  omega
 ·have:a/m<9223372036854775808:=by
   rw[Int.ediv_lt_iff_lt_mul (by omega)]
   have:=Int.mul_le_mul_of_nonneg_left (c:=9223372036854775808) (a:=1) (b:=m) hm (by omega)
   omega
  omega
section
variable {L:Lib} {k:List It} {tm:Tm} {own:Own} {Q:St→Prop} {l:List AI} {ban:List Nat} {d:Nat} {x y:Opd} {a b n p:Int} {k2:IntKind}
end
end Go.Eng

namespace Go.Eng
theorem tget_tdrop (ts:List Nat) (j:Nat) : ∀ tm:Tm,tget (tdrop tm ts) j=if ts.contains j then .any else tget tm j
 | []=>by simp [tdrop_nil,tget_nil]
 | (i,u)::r=>by
  rw[tdrop_cons]
  by_cases h:ts.contains i=true
  ·rw[if_pos h,tget_tdrop ts j r,tget_cons]
   by_cases h2:j=i
   ·subst h2;rw[if_pos h,if_pos h]
   ·rw[if_neg h2]
  ·rw[if_neg h,tget_cons,tget_cons,tget_tdrop ts j r]
   by_cases h2:j=i
   ·subst h2;rw[if_pos rfl,if_pos rfl,if_neg h]
   ·rw[if_neg h2,if_neg h2]
def St.eqv (a b:St):Prop:=a.own=b.own ∧ ∀ j,tget a.tm j=tget b.tm j
theorem St.eqv.ev {a b:St} (h:a.eqv b):a.ev=b.ev:=by
 funext x;cases x with
 | t n=>exact h.2 n
 | c v=>rfl
theorem St.eqv.dst {a b:St} (h:a.eqv b) (d:Option Nat) (v:AV):(a.dst d v).eqv (b.dst d v):=by
 cases d with
 | none=>exact h
 | some d=>exact ⟨h.1,fun j=>by simp only[St.dst,tget_tput,h.2]⟩
theorem St.dst_own (a:St) (d:Option Nat) (v:AV):(a.dst d v).own=a.own:=by cases d<;>rfl
theorem St.eqv.app {a b:St} (h:a.eqv b) (d:Option Nat) (E:Eff):(a.app d E).eqv (b.app d E):=by
 cases E with
 | val v=>exact h.dst d v
 | new s c v=>simp only[St.app,h.1];exact ⟨rfl,(h.dst d _).2⟩
 | vir s c v=>simp only[St.app,h.1];exact ⟨rfl,(h.dst d _).2⟩
 | tur v o=>exact ⟨rfl,(h.dst d v).2⟩
 | upd s x=>simp only[St.app,h.1];exact ⟨rfl,(h.dst d _).2⟩
 | upn s x v=>simp only[St.app,h.1];exact ⟨rfl,(h.dst d _).2⟩
theorem St.eqv.guard {a b:St} (h:a.eqv b) (g:Option (Nat × Bool)):guardA a g=guardA b g:=by
 cases g with
 | none=>rfl
 | some g=>simp only[guardA,h.2]
def clo (Q:St→Prop) (s:St):Prop := ∃ s',s'.eqv s∧Q s'
theorem clo.intro {Q:St→Prop} {s:St} (h:Q s):clo Q s:=⟨s,⟨rfl,fun _=>rfl⟩,h⟩
def memN (j:Nat):List Nat→Bool
 | []=>false
 | i::r=>bif Nat.beq j i then true else memN j r
theorem Res.eqv {fn:AFn} {r:AV} {a b:St} (h:a.eqv b) (hr:Res fn r a):Res fn r b:=by
 have e:resOf a=resOf b:=by
  funext x;cases x with
  | tmp t=>simp only[resOf,h.2]
  | cell t agg n=>simp only[resOf,h.2,h.1]
 unfold Res at hr ⊢
 rw[e,h.1]at hr
 exact hr
theorem Ev.go {L:Lib} {f:Nat} {fn:AFn} {vs:List AV} {r:AV} (hL:L f=some fn) (hp:vs.length=fn.pars) (h:AK L [.code fn.body] ⟨initTm 0 vs,Own.emp⟩ (clo (Res fn r))) (hs:fn.spl=false:=by rfl):Ev L f vs r :=
 Ev.fwd hL hp (AK_mono h fun s hs=>by
  obtain ⟨s',he,hq⟩:=hs
  exact Res.eqv he hq) hs
abbrev encInt (n:Int):List AV:=[.int .i64 n]
section
variable {L:Lib} {k:List It} {tm:Tm} {own:Own} {Q:St→Prop} {l:List AI} {ban:List Nat} {d:Nat} {x i:Opd} {kd:IntKind} {a:Int} {q:Bool} {α:Type} {es:List α} {enc:α→List AV} {z:Nat}
end
end Go.Eng

namespace Go.Eng
inductive Cel where
 | bx (cs:List AV)
 | rw (z:Nat) (es:List (List AV))
 | bs (z:Nat) (es:List (List AV))
 | mx (rows:List (Option (Nat × List (List AV))))
 | hx (i:Nat) (v:AV) (rows:List (Option (Nat × List (List AV))))
 | vw (w:List Nat) (rows:List (Option (Nat × List (List AV))))
abbrev Mem:=List (Nat × Nat × Cel)
def mget:Mem→Nat→Option (Nat × Cel)
 | [],_=>none
 | (k,s,c)::r,j=>bif Nat.beq j k then some (s,c) else mget r j
def mref (M:Mem) (k t:Nat):Option Cel:=match mget M k with
 | none=>none
 | some (_,c)=>match t with
  | 0=>some c
  | i+1=>match c with
   | .mx rows=>match rows[i]? with
    | some (some (z,es))=>some (.rw z es)
    | _=>none
   | .hx _ _ rows=>match rows[i]? with
    | some (some (z,es))=>some (.rw z es)
    | _=>none
   | .vw _ rows=>match rows[i]? with
    | some (some (z,es))=>some (.rw z es)
    | _=>none
   | _=>none
def mdel (j:Nat):Mem→Mem
 | []=>[]
 | (k,s,c)::r=>bif Nat.beq j k then mdel j r else (k,s,c)::mdel j r
def tg:Tm→Nat→AV
 | [],_ => .any
 | (i,v)::r,j=>bif Nat.beq j i then v else tg r j
def bit (m i:Nat):Bool:=Nat.beq (Nat.land (Nat.shiftRight m i) 1) 1
def mask:Nat→List Nat→Nat
 | m,[]=>m
 | m,t::ts=>mask (Nat.lor m (Nat.shiftLeft 1 t)) ts
def cnm (m:Nat):Tm→Tm
 | []=>[]
 | (i,v)::r=>bif bit m i then cnm m r else (i,v)::cnm (Nat.lor m (Nat.shiftLeft 1 i)) r
def fN (n:Nat) (K:Nat→Prop):Prop:=match n with
 | 0=>K 0
 | k+1=>K (k+1)
def dat:AV→Bool
 | .int _ _=>true | .bool _=>true | .con _=>true | .sl _ _=>true | .nil=>true
 | _=>false
def datL:List AV→Bool
 | []=>true
 | v::r=>bif dat v then datL r else false
def datLL:List (List AV)→Bool
 | []=>true
 | v::r=>bif datL v then datLL r else false
def rf1 (s:Nat):AV→Bool
 | .row k _ _ _ _=>Nat.beq k s | .ptr k _ _ _=>Nat.beq k s
 | _=>false
def rfL (s:Nat):List AV→Bool
 | []=>false
 | v::r=>bif rf1 s v then true else rfL s r
def rfLL (s:Nat):List (List AV)→Bool
 | []=>false
 | v::r=>bif rfL s v then true else rfLL s r
def rf2 (s:Nat):AV→Bool
 | .agg cs=>rfL s cs
 | .fn _ _ _ cs=>rfL s cs
 | v=>rf1 s v
def rf2L (s:Nat):List AV→Bool
 | []=>false
 | v::r=>bif rf2 s v then true else rf2L s r
def rf3 (s:Nat):AV→Bool
 | .tup vs=>rf2L s vs
 | v=>rf2 s v
def rfT (s:Nat):Tm→Bool
 | []=>false
 | (_,v)::r=>bif rf3 s v then true else rfT s r
def rfC (s:Nat):Cel→Bool
 | .bx cs=>rfL s cs
 | .rw _ _=>false
 | .bs _ es=>rfLL s es
 | .mx _=>false
 | .hx _ _ _=>false
 | .vw _ _=>false
def rfM (s:Nat):Mem→Bool
 | []=>false
 | (k,_,c)::r=>bif Nat.beq s k then true else bif rfC s c then true else rfM s r
def ch1 (s:Nat):AV→Bool
 | .row k t _ _ _=>bif Nat.beq k s then (match t with|0=>false|_+1=>true) else false
 | .ptr k t _ _=>bif Nat.beq k s then (match t with|0=>false|_+1=>true) else false
 | _=>false
def chL (s:Nat):List AV→Bool
 | []=>false
 | v::r=>bif ch1 s v then true else chL s r
def ch2 (s:Nat):AV→Bool
 | .agg cs=>chL s cs
 | .fn _ _ _ cs=>chL s cs
 | v=>ch1 s v
def ch2L (s:Nat):List AV→Bool
 | []=>false
 | v::r=>bif ch2 s v then true else ch2L s r
def ch3 (s:Nat):AV→Bool
 | .tup vs=>ch2L s vs
 | v=>ch2 s v
def chT (s:Nat):Tm→Bool
 | []=>false
 | (_,v)::r=>bif ch3 s v then true else chT s r
def chLL (s:Nat):List (List AV)→Bool
 | []=>false
 | v::r=>bif chL s v then true else chLL s r
def chC (s:Nat):Cel→Bool
 | .bx cs=>chL s cs
 | .bs _ es=>chLL s es
 | _=>false
def chM (s:Nat):Mem→Bool
 | []=>false
 | (_,_,c)::r=>bif chC s c then true else chM s r
def used (k:Nat) (tm:Tm) (M:Mem):Bool:=bif rfM k M then true else rfT k tm
def pickN (tm:Tm) (M:Mem):List Nat→(Nat→Prop)→Prop
 | [],_=>False
 | k::r,K=>bif used k tm M then pickN tm M r K else K k
def NewF (s:Nat) (tm:Tm) (M:Mem) (K:Nat→Prop):Prop:=pickN tm M [s,s+1000000,s+2000000,s+3000000] K
def fL:List AV→(List AV→Prop)→Prop
 | [],K=>K []
 | v::r,K=>fL r fun r'=>K (v::r')
def fV (v:AV) (K:AV→Prop):Prop:=match v with
 | .int k n=>K (.int k n) | .bool b=>K (.bool b) | .sl l es=>K (.sl l es) | .row s t z o n=>K (.row s t z o n)
 | .nil=>K .nil | .ptr s t i j=>K (.ptr s t i j) | .dptr cs=>K (.dptr cs) | .agg cs=>fL cs fun cs=>K (.agg cs)
 | .fn p f g cs=>fL cs fun cs=>K (.fn p f g cs)
 | .tup vs=>fL vs fun vs=>K (.tup vs) | .con c=>K (.con c) | .any=>False
def fC (v:AV) (K:List AV→Prop):Prop:=match v with
 | .agg cs=>fL cs K
 | .fn _ _ _ _=>False
 | .tup _=>False
 | .any=>False
 | v=>fV v fun v=>K [v]
def fB (b:Bool) (K:Bool→Prop):Prop:=match b with
 | true=>K true
 | false=>K false
def fT:Tm→(Tm→Prop)→Prop
 | [],K=>K []
 | (i,v)::r,K=>fT r fun r'=>K ((i,v)::r')
def fM:Mem→(Mem→Prop)→Prop
 | [],K=>K []
 | (k,s,c)::r,K=>fM r fun r'=>K ((k,s,c)::r')
def fF (v:AV) (K:AV→Prop):Prop:=match v with
 | .int k n=>K (.int k n) | .bool b=>K (.bool b) | .sl l es=>K (.sl l es) | .row s t z o n=>K (.row s t z o n)
 | .nil=>K .nil | .ptr s t i j=>K (.ptr s t i j) | .con c=>K (.con c)|_=>False
def f2 (v:AV) (K:AV→Prop):Prop:=match v with
 | .int k n=>K (.int k n) | .bool b=>K (.bool b) | .sl l es=>K (.sl l es) | .row s t z o n=>K (.row s t z o n)
 | .nil=>K .nil | .ptr s t i j=>K (.ptr s t i j) | .con c=>K (.con c) | .agg cs=>fL cs fun cs=>K (.agg cs) | .fn p f g cs=>fL cs fun cs=>K (.fn p f g cs)|_=>False
def ofc (agg:Bool) (ds:List AV) (K:AV→Prop):Prop:=match agg with
 | true=>K (.agg ds)
 | false=>match ds with
  | [c]=>fF c K
  | _=>False
def CmpP (p q A B:Prop):Prop:=(p→A)∧(q→B)
def Req (p A:Prop):Prop:=p∧A
def OpP (op:BinOp) (k:IntKind) (a:Int) (k':IntKind) (b:Int) (K:AV→Prop):Prop := ∃ v,intBin op k a k' b=some v∧K v
def UnP (op:UnOp) (k:IntKind) (n:Int) (K:AV→Prop):Prop := ∃ v,unA op (.int k n)=some v∧K v
def ConvP (k:IntKind) (n:Int) (K:Int→Prop):Prop:=K (k.wrap n)
def RdP (es:List (List AV)) (a:Int) (z:Nat) (K:List AV→Prop):Prop:=0≤a ∧ ∃ cs,es[a.toNat]? = some cs∧cs.length=z∧K cs
def LdR (es:List (List AV)) (i j n:Nat) (K:List AV→Prop):Prop := ∃ cs ds,es[i]? = some cs∧part cs j n=some ds∧K ds
def StR (es:List (List AV)) (i j:Nat) (vs:List AV) (K:List (List AV)→Prop):Prop := ∃ cs,es[i]? = some cs∧j+vs.length≤cs.length∧K (es.set i (splice cs j vs))
def MkR (a b:Int) (bytes:Nat) (zero:List AV) (K:List (List AV)→Nat→Prop):Prop:=(0≤a∧a≤b∧b*bytes≤roomMax∧b≤9223372036854775807)∧K (List.replicate a.toNat zero) a.toNat
def LenP (es:List (List AV)) (K:Nat→Prop):Prop:=K es.length
def AppR (es:List (List AV)) (len:Nat) (ys:List (List AV)) (z bytes:Nat) (K:List (List AV)→Nat→Prop):Prop :=
 len≤es.length∧(∀ e∈ys,e.length=z)∧(len+ys.length)*bytes≤roomMax∧len+ys.length≤9223372036854775807∧K (es.take len++ys) (len+ys.length)
def AppN (ys:List (List AV)) (z bytes:Nat) (K:List (List AV)→Nat→Prop):Prop :=
 (∀ e∈ys,e.length=z)∧ys.length*bytes≤roomMax∧ys.length≤9223372036854775807∧K ys ys.length
def CpyR (es:List (List AV)) (off len:Nat) (ys:List (List AV)) (z:Nat) (K:List (List AV)→Nat→Prop):Prop :=
 off+len≤es.length∧(∀ e∈ys,e.length=z)∧K (es.take off++ys.take len++es.drop (off+min ys.length len)) (min ys.length len)
def RowP (es:List (List AV)) (off len:Nat) (K:List (List AV)→Prop):Prop:=off+len≤es.length∧K ((es.drop off).take len)
def okE:List AV→Bool
 | []=>true
 | v::r=>match v with
  | .int _ _=>okE r | .bool _=>okE r | .con _=>okE r | .sl _ _=>okE r
  | _=>false
def nl:AV→AV
 | .nil => .sl false []
 | v=>v
def okN:List AV→Bool
 | []=>true
 | v::r=>match v with
  | .int _ _=>okN r | .bool _=>okN r | .con _=>okN r | .sl _ _=>okN r | .nil=>okN r
  | _=>false
def SnR (es:List (List AV)) (off len:Nat) (K:List (List AV)→Prop):Prop:=off+len≤es.length∧(∀ e∈es,okN e=true)∧K (((es.drop off).take len).map fun e=>e.map nl)
def LdM (rows:List (Option (Nat × List (List AV)))) (i:Nat) (K:Option (Nat × List (List AV))→Prop):Prop := ∃ r,rows[i]? = some r∧K r
def GetM (rows:List (Option (Nat × List (List AV)))) (i:Nat) (K:Nat→List (List AV)→Prop):Prop := ∃ z es,rows[i]? = some (some (z,es))∧K z es
def SetM (rows:List (Option (Nat × List (List AV)))) (i z:Nat) (es:List (List AV)) (K:List (Option (Nat × List (List AV)))→Prop):Prop:=i<rows.length∧K (rows.set i (some (z,es)))
def PutM (rows:List (Option (Nat × List (List AV)))) (i z:Nat) (es es':List (List AV)) (K:List (Option (Nat × List (List AV)))→Prop):Prop:=es'.length=es.length∧K (rows.set i (some (z,es')))
def MkM (a b:Int) (bytes:Nat) (K:List (Option (Nat × List (List AV)))→Nat→Prop):Prop:=(0≤a∧a≤b∧b*bytes≤roomMax∧b≤9223372036854775807)∧K (List.replicate a.toNat none) a.toNat
def AppM (rows:List (Option (Nat × List (List AV)))) (len:Nat) (r:Option (Nat × List (List AV))) (bytes:Nat) (K:List (Option (Nat × List (List AV)))→Nat→Prop):Prop :=
 len=rows.length∧(len+1)*bytes≤roomMax∧len+1≤9223372036854775807∧K (rows++[r]) (len+1)
def rowsE (q:Bool):List (Option (Nat × List (List AV)))→List (List AV)
 | []=>[]
 | none::r=>[.sl false []]::rowsE q r
 | some (_,es)::r=>[.sl q es]::rowsE q r
def SnM (q:Bool) (rows:List (Option (Nat × List (List AV)))) (off len:Nat) (K:List (List AV)→Prop):Prop :=
 off=0∧len=rows.length∧(∀ z es,some (z,es)∈rows → ∀ e∈es,okE e=true)∧K (rowsE q rows)
def Bds (lo hi:Option Int) (len:Nat) (K:Nat→Nat→Prop):Prop :=
 ∃ a h:Nat,(match lo with|none=>a=0|some x=>0≤x∧a=x.toNat)∧(match hi with|none=>h=len|some x=>0≤x∧x≤len∧h=x.toNat)∧a≤h∧K a h
def SlS (z:Nat) (es:List (List AV)) (lo hi:Option Int) (K:List (List AV)→Prop):Prop:=(∀ e∈es,e.length=z)∧Bds lo hi es.length fun a h=>K ((es.take h).drop a)
def CallP (L:Lib) (f:Nat) (vs:List AV) (K:AV→Prop):Prop := ∃ r,Ev L f vs r∧K r
def AeqP (n:Nat) (cs ds:List AV) (K:Bool→Prop):Prop := ∃ a b,intL cs=some a∧intL ds=some b∧a.length=n∧b.length=n∧K (decide (a=b))
def intA:List AV→Bool
 | []=>true
 | .int _ _::r=>intA r
 | _=>false
def CallR (L:Lib) (f:Nat) (vs:List AV) (K:Nat→List (List AV)→Nat→Prop):Prop := ∃ z es n,EvR L f vs z es∧n=es.length∧K z es n
abbrev Stp:=Nat→Nat→Nat × Nat
def st1 (σ:Stp):AV→AV
 | .row k t z o n => .row (σ k t).1 (σ k t).2 z o n
 | .ptr k t i j => .ptr (σ k t).1 (σ k t).2 i j
 | v=>v
def st2 (σ:Stp):AV→AV
 | .agg cs => .agg (cs.map (st1 σ))
 | .fn p f g cs => .fn p f g (cs.map (st1 σ))
 | v=>st1 σ v
def st3 (σ:Stp):AV→AV
 | .tup vs => .tup (vs.map (st2 σ))
 | v=>st2 σ v
def mxB (σ:Stp) (k:Nat):Nat→List (Option (Nat × List (List AV)))→List (List AV)
 | _,[]=>[]
 | i,none::r=>[.nil]::mxB σ k (i+1) r
 | i,some (z,es)::r=>[.row (σ k (i+1)).1 (σ k (i+1)).2 z 0 es.length]::mxB σ k (i+1) r
def Cel.blk (σ:Stp) (k:Nat):Cel→Blk
 | .bx cs=>⟨cs.length,[cs.map (st1 σ)]⟩
 | .rw z es=>⟨z,es⟩
 | .bs z es=>⟨z,es.map fun cs=>cs.map (st1 σ)⟩
 | .mx rows=>⟨1,mxB σ k 0 rows⟩
 | .hx i v rows=>⟨1,(mxB σ k 0 rows).set i [v]⟩
 | .vw w rows=>⟨1,w.map fun t=>((mxB σ k 0 rows)[t]?).getD []⟩
def Cel.isRow:Cel→Bool
 | .bx _=>false
 | _=>true
def loSite (s:Nat):Bool:=Nat.blt s 900000
structure Sat (σ:Stp) (own:Own) (M:Mem):Prop where
 site : ∀ k s c,mget M k=some (s,c)→(σ k 0).1=s
 blk : ∀ k t c,mref M k t=some c→(own (σ k t).1).blk (σ k t).2=some (c.blk σ k)
 old : ∀ k t c,mref M k t=some c→(σ k t).2<(own (σ k t).1).cnt
 inj : ∀ k t k' t' c c',mref M k t=some c→mref M k' t'=some c'→σ k t=σ k' t'→k=k'∧t=t'
 low : ∀ k t c,mref M k t=some c→c.isRow=true→loSite (σ k t).1=true
structure RX (σ:Stp) (tm:Tm) (M:Mem) (st:St):Prop where
 tm : ∀ j,tg tm j = .any∨tget st.tm j=st3 σ (tg tm j)
 sat:Sat σ st.own M
def SQ (Q:Tm→Mem→Prop) (st:St):Prop := ∃ σ tm M,RX σ tm M st∧Q tm M
def AKM (L:Lib) (k:List It) (tm:Tm) (M:Mem) (Q:Tm→Mem→Prop):Prop := ∀ σ st,RX σ tm M st→AK L k st (SQ Q)
def AOM (L:Lib) (l:List AI) (k:List It) (tm:Tm) (M:Mem) (Q:Tm→Mem→Prop):Prop := ∀ σ st,RX σ tm M st→AO L l k st (SQ Q)
def CalP (L:Lib) (f:Nat) (vs:List AV) (tm:Tm) (M:Mem) (K:AV→Mem→Prop):Prop :=
 ∀ σ own,Sat σ own M → ∃ r own' σ' M',EvI L f (vs.map (st3 σ)) own (st3 σ' r) own'∧Sat σ' own' M'∧(∀ j,st3 σ' (tg tm j)=st3 σ (tg tm j))∧K r M'
def CalS (L:Lib) (s f key:Nat) (rest:List AV) (M:Mem) (K:AV→Mem→Prop):Prop :=
 ∃ (cells cells':List AV) (kd:IntKind) (n:Int),mget M key=some (s,.bx cells)∧datL cells=true∧datL cells'=true∧(∀ (t:Nat) (q:Site),q.blk t=some ⟨cells.length,[cells]⟩→EvS L s f (.ptr s t 0 0::rest) q (.int kd n) (q.upd t (some ⟨cells'.length,[cells']⟩)))∧K (.int kd n) ((key,s,.bx cells')::M)
def cv:AV→AV
 | .agg cs=>bif datL cs then .agg cs else .any
 | .tup [] => .tup []
 | .dptr _ => .any
 | v=>bif dat v then v else .any
def ex (tm:Tm):Opd→AV
 | .t n=>tg tm n
 | .c v=>cv v
def kq (k k':IntKind):Bool:=decide (k=k')
def binX (op:BinOp) (k:IntKind) (a:Int) (k':IntKind) (b:Int) (K:AV→Prop):Prop:=match op with
 | .lss=>bif kq k k' then CmpP (a<b) (b≤a) (K (.bool true)) (K (.bool false)) else False
 | .leq=>bif kq k k' then CmpP (a≤b) (b<a) (K (.bool true)) (K (.bool false)) else False
 | .gtr=>bif kq k k' then CmpP (b<a) (a≤b) (K (.bool true)) (K (.bool false)) else False
 | .geq=>bif kq k k' then CmpP (b≤a) (a<b) (K (.bool true)) (K (.bool false)) else False
 | .eql=>bif kq k k' then CmpP (a=b) (a≠b) (K (.bool true)) (K (.bool false)) else False
 | .neq=>bif kq k k' then CmpP (a≠b) (a=b) (K (.bool true)) (K (.bool false)) else False
 | op=>OpP op k a k' b K
noncomputable def mmX (mx:Bool) (k:IntKind) (K:AV→Prop) (a:Int) (l:List AV):Prop :=
 List.rec (motive:=fun _=>Int→Prop) (fun a=>K (.int k a)) (fun v _ ih a=>match v with
  | .int _ b=>bif mx then CmpP (a<b) (b≤a) (ih b) (ih a) else CmpP (b<a) (a≤b) (ih b) (ih a)
  | _=>False) l a
def lget:List AV→Nat→AV
 | [],_ => .any
 | v::_,0=>v
 | _::r,n+1=>lget r n
def okB (s:Nat):List Nat→Bool
 | []=>true
 | ban => !(memN s ban)
def okC:List Nat→Bool
 | []=>true
 | s::r=>bif loSite s then false else okC r
def rwX (M:Mem) (k t:Nat) (K:Nat→List (List AV)→Prop):Prop:=match mget M k with
 | some (_,c)=>match t with
  | 0=>match c with
   | .rw z es=>K z es
   | _=>False
  | i+1=>match c with
   | .mx rows=>GetM rows i K
   | _=>False
 | none=>False
def elX (M:Mem) (v:AV) (K:List (List AV)→Prop):Prop:=match v with
 | .sl _ es=>K es
 | .nil=>K []
 | .con (.bool _)=>K []
 | .row key t z off len=>rwX M key t fun z' es=>bif Nat.beq z z' then RowP es off len K else False
 | _=>False
def snD (q:Bool) (M:Mem) (ban:List Nat) (v:AV) (K:AV→Prop):Prop:=match v with
 | .int k n=>K (.int k n)
 | .bool b=>K (.bool b)
 | .sl l es=>K (.sl l es)
 | .con c=>K (.con c)
 | .nil=>K (.sl false [])
 | .row key t z off len=>match mget M key with
  | some (s,.rw z' es)=>match t with
   | 0=>bif Nat.beq z z' then bif okB s ban then SnR es off len fun es=>K (.sl q es) else False else False
   | _+1=>False
  | some (_,.mx rows)=>match t with
   | 0=>False
   | i+1=>match ban with
    | []=>GetM rows i fun z' es=>bif Nat.beq z z' then SnR es off len fun es=>K (.sl q es) else False
    | b::r=>bif okC (b::r) then GetM rows i fun z' es=>bif Nat.beq z z' then SnR es off len fun es=>K (.sl q es) else False else False
  | _=>False
 | _=>False
noncomputable def snDL (q:Bool) (M:Mem) (ban:List Nat) (l:List AV):(List AV→Prop)→Prop :=
 List.rec (motive:=fun _=>(List AV→Prop)→Prop) (fun K=>K []) (fun v _ ih K=>snD q M ban v fun v'=>ih fun r'=>K (v'::r')) l
noncomputable def snDLL (q:Bool) (M:Mem) (ban:List Nat) (l:List (List AV)):(List (List AV)→Prop)→Prop :=
 List.rec (motive:=fun _=>(List (List AV)→Prop)→Prop) (fun K=>K []) (fun v _ ih K=>snDL q M ban v fun v'=>ih fun r'=>K (v'::r')) l
noncomputable def snC (q:Bool) (M:Mem) (ban:List Nat) (v:AV) (K:AV→Prop):Prop:=match v with
 | .row key 0 z off len=>match mget M key with
  | some (s,.bs z' es)=>bif Nat.beq z z' then bif okB s ban then bif Nat.beq off 0 then Req (len=es.length) (snDLL q M ban es fun es=>K (.sl q es)) else False else False else False
  | some (_,.mx rows)=>match ban with
   | []=>bif Nat.beq z 1 then SnM q rows off len fun es=>K (.sl q es) else False
   | _::_=>False
  | _=>snD q M ban (.row key 0 z off len) K
 | v=>snD q M ban v K
noncomputable def snL (q:Bool) (M:Mem) (ban:List Nat) (l:List AV):(List AV→Prop)→Prop :=
 List.rec (motive:=fun _=>(List AV→Prop)→Prop) (fun K=>K []) (fun v _ ih K=>snC q M ban v fun v'=>ih fun r'=>K (v'::r')) l
noncomputable def snA (q:Bool) (M:Mem) (ban:List Nat) (v:AV) (K:AV→Prop):Prop:=match v with
 | .agg cs=>snL q M ban cs fun cs=>K (.agg cs)
 | v=>snC q M ban v K
noncomputable def snX (tm:Tm) (M:Mem) (ban:List Nat) (l:List Opd):(List AV→Prop)→Prop :=
 List.rec (motive:=fun _=>(List AV→Prop)→Prop) (fun K=>K []) (fun x _ ih K=>snA true M ban (ex tm x) fun v=>ih fun vs=>K (v::vs)) l
noncomputable def snN (M:Mem) (ban:List Nat) (v:AV) (K:AV→Prop):Prop:=match v with
 | .nil=>K .nil
 | v=>snA true M ban v K
noncomputable def snNX (tm:Tm) (M:Mem) (ban:List Nat) (l:List Opd):(List AV→Prop)→Prop :=
 List.rec (motive:=fun _=>(List AV→Prop)→Prop) (fun K=>K []) (fun x _ ih K=>snN M ban (ex tm x) fun v=>ih fun vs=>K (v::vs)) l
noncomputable def exF (tm:Tm) (l:List Opd):(List AV→Prop)→Prop :=
 List.rec (motive:=fun _=>(List AV→Prop)→Prop) (fun K=>K []) (fun x _ ih K=>fV (ex tm x) fun v=>ih fun vs=>K (v::vs)) l
def obX (tm:Tm) (o:Option Opd) (K:Option Int→Prop):Prop:=match o with
 | none=>K none
 | some x=>match ex tm x with
  | .int _ n=>K (some n)
  | _=>False
def lnX (es:List (List AV)) (K:Nat→Prop):Prop:=match es with
 | []=>K 0
 | [_]=>K 1
 | [_,_]=>K 2
 | [_,_,_]=>K 3
 | [_,_,_,_]=>K 4
 | es=>K es.length
noncomputable def bsX (tm:Tm) (z:Nat) (l:List Opd):(List (List AV)→Prop)→Prop :=
 List.rec (motive:=fun _=>(List (List AV)→Prop)→Prop) (fun K=>K []) (fun x _ ih K=>fC (ex tm x) fun cs=>bif Nat.beq cs.length z then ih fun es=>K (cs::es) else False) l
noncomputable def flX (tm:Tm) (ps:List (Nat × Nat × Opd)):List AV→(List AV→Prop)→Prop :=
 List.rec (motive:=fun _=>List AV→(List AV→Prop)→Prop) (fun cells K=>K cells) (fun p _ ih cells K=>fC (ex tm p.2.2) fun vs=>bif Nat.beq vs.length p.2.1 then bif Nat.ble (p.1+p.2.1) cells.length then fL (splice cells p.1 vs) fun cells=>ih cells K else False else False) ps
def exL (tm:Tm):List Opd→List AV
 | []=>[]
 | x::r=>ex tm x::exL tm r
def TbP (tb:List Nat) (n:Int) (K:Nat→Prop):Prop:=0≤n ∧ ∃ v,tb[n.toNat]? = some v∧K v
noncomputable def oaX (tm:Tm) (l:List Opd):(List AV→Prop)→Prop :=
 List.rec (motive:=fun _=>(List AV→Prop)→Prop) (fun K=>K []) (fun x _ ih K=>fF (ex tm x) fun v=>ih fun cs=>K (v::cs)) l
def one1:AV→Bool
 | .agg _=>false | .fn _ _ _ _=>false | .tup _=>false | .any=>false
 | _=>true
def oneL:List AV→Bool
 | []=>true
 | v::r=>bif one1 v then oneL r else false
def apX (M:Mem) (v:AV):Option (Nat × Option (Nat × Nat × Nat)):=match v with
 | .row ky 0 1 0 1=>match mget M ky with
  | some (_,.bs 1 [[.row k2 0 z 0 n]])=>some (ky,some (k2,z,n))
  | some (_,.rw 1 [[.nil]])=>some (ky,none)
  | _=>none
 | _=>none
def stX (tm:Tm) (M:Mem) (K:AV→Mem→Prop) (n:Nat) (x v:Opd):Prop:=match ex tm x with
 | .ptr key t i j=>fC (ex tm v) fun vs=>bif Nat.beq vs.length n then (match mget M key with
  | some (s,c)=>match t with
   | 0=>match c with
    | .bx cs=>bif Nat.beq i 0 then bif Nat.ble (j+vs.length) cs.length then fL (splice cs j vs) fun cs'=>K (.tup []) ((key,s,.bx cs')::M) else False else False
    | .rw z es=>bif datL vs then StR es i j vs fun es'=>K (.tup []) ((key,s,.rw z es')::M) else False
    | .bs _ _=>False
    | .mx rows=>match vs with
     | [.row key2 0 z 0 m]=>bif Nat.beq key key2 then False else bif chT key tm then False else bif chM key M then False else bif Nat.beq j 0 then (match mget M key2 with
      | some (_,.rw z' es)=>bif Nat.beq z z' then fM (mdel key2 M) fun M'=>Req (m=es.length) (SetM rows i z es fun rows'=>K (.tup []) ((key,s,.mx rows')::M')) else False
      | _=>False) else False
     | [.row key2 (t2+1) z 0 m]=>bif Nat.beq key key2 then bif Nat.beq j 0 then GetM rows t2 fun z' es=>bif Nat.beq z z' then Req (m=es.length∧i<rows.length) (K (.tup []) ((key,s,.vw ((List.range rows.length).set i t2) rows)::M)) else False else False else False
     | _=>False
    | .hx i0 _ rows=>match vs with
     | [.row key2 0 z 0 m]=>bif Nat.beq key key2 then False else bif chT key tm then False else bif chM key M then False else bif Nat.beq j 0 then (match mget M key2 with
      | some (_,.rw z' es)=>bif Nat.beq z z' then fM (mdel key2 M) fun M'=>Req (i=i0∧m=es.length) (SetM rows i z es fun rows'=>K (.tup []) ((key,s,.mx rows')::M')) else False
      | _=>False) else False
     | _=>False
    | .vw w rows=>match vs with
     | [.row key2 (t2+1) z 0 m]=>bif Nat.beq key key2 then bif Nat.beq j 0 then GetM rows t2 fun z' es=>bif Nat.beq z z' then Req (m=es.length∧i<w.length ∧ ∀ t∈w,t<rows.length) (K (.tup []) ((key,s,.vw (w.set i t2) rows)::M)) else False else False else False
     | _=>False
   | i'+1=>match c with
    | .mx rows=>bif datL vs then GetM rows i' fun z es=>StR es i j vs fun es'=>PutM rows i' z es es' fun rows'=>K (.tup []) ((key,s,.mx rows')::M) else False
    | _=>False
  | none=>False) else False
 | _=>False
def FlP (r:AV) (K:AV→Prop):Prop:=FlatR r∧K (lnd r)
noncomputable def XE (L:Lib) (tm:Tm) (M:Mem) (ban:List Nat) (K:AV→Mem→Prop):AOp→Prop
 | .mov x=>fV (ex tm x) fun v=>K v M
 | .vrow s z=>bif loSite s then NewF s tm M fun k=>K (.row k 0 z 0 0) ((k,s,.rw z [])::M) else False
 | .pick c a b=>match ex tm c with
  | .bool true=>fV (ex tm a) fun v=>K v M
  | .bool false=>fV (ex tm b) fun v=>K v M
  | _=>False
 | .bin op x y=>match ex tm x,ex tm y with
  | .int k a,.int k' b=>binX op k a k' b fun v=>K v M
  | _,_=>False
 | .aeq ne n x y=>match ex tm x,ex tm y with
  | .agg cs,.agg ds=>AeqP n cs ds fun b=>fB (bif ne then !b else b) fun c=>K (.bool c) M
  | _,_=>False
 | .beq ne x y=>match ex tm x,ex tm y with
  | .bool a,.bool b=>fB (bif ne then !(a == b) else a == b) fun c=>K (.bool c) M
  | _,_=>False
 | .un op x=>match ex tm x with
  | .int k n=>UnP op k n fun v=>K v M
  | .bool b=>match op with
   | .not=>fB (!b) fun c=>K (.bool c) M
   | _=>False
  | _=>False
 | .conv k x=>match ex tm x with
  | .int _ n=>ConvP k n fun v=>K (.int k v) M
  | _=>False
 | .box s x=>fC (ex tm x) fun cs=>NewF s tm M fun k=>K (.ptr k 0 0 0) ((k,s,.bx cs)::M)
 | .alloc s zero=>bif datL zero then (NewF s tm M fun k=>K (.ptr k 0 0 0) ((k,s,.bx zero)::M)) else False
 | .build zero parts=>bif datL zero then flX tm parts zero fun cs=>K (.agg cs) M else False
 | .bslice s z parts=>bif loSite s then bsX tm z parts fun es=>lnX es fun n=>NewF s tm M fun k=>bif datLL es then K (.row k 0 z 0 n) ((k,s,.rw z es)::M) else K (.row k 0 z 0 n) ((k,s,.bs z es)::M) else False
 | .fadr x off=>match ex tm x with
  | .ptr key t i j=>K (.ptr key t i (j+off)) M
  | .dptr cs=>fL (cs.drop off) fun cs=>K (.dptr cs) M
  | _=>False
 | .fld x off n agg=>match ex tm x with
  | .agg cs=>match part cs off n with
   | some ds=>fL ds fun ds=>ofc agg ds fun v=>K v M
   | none=>False
  | _=>False
 | .iadr arr z x i=>match ex tm i with
  | .int _ n=>match arr,ex tm x with
   | some len,.ptr key t i' j=>Req (0≤n∧n<(len:Int)) (K (.ptr key t i' (j+n.toNat*z)) M)
   | some len,.dptr cs=>Req (0≤n∧n<(len:Int)) (fL (cs.drop (n.toNat*z)) fun cs=>K (.dptr cs) M)
   | none,.row key t z' off len=>bif Nat.beq z' z then Req (0≤n∧n<(len:Int)) (K (.ptr key t (off+n.toNat) 0) M) else False
   | none,.sl _ es=>RdP es n z fun cs=>K (.dptr cs) M
   | _,_=>False
  | _=>False
 | .idx len z agg x i=>match ex tm i,ex tm x with
  | .int _ n,.agg cs=>Req (0≤n∧n<(len:Int)) (match part cs (n.toNat*z) z with
   | some ds=>fL ds fun ds=>ofc agg ds fun v=>K v M
   | none=>False)
  | _,_=>False
 | .ld agg n x=>match ex tm x with
  | .ptr key t i j=>match mget M key with
   | some (s,c)=>match t with
    | 0=>bif okB s ban then (match c with
     | .bx cs=>bif Nat.beq i 0 then (match part cs j n with
      | some ds=>fL ds fun ds=>ofc agg ds fun v=>K v M
      | none=>False) else False
     | .rw _ es=>LdR es i j n fun ds=>fL ds fun ds=>bif datL ds then ofc agg ds fun v=>K v M else False
     | .bs _ es=>(match es[i]? with
      | some cs=>(match part cs j n with
       | some ds=>fL ds fun ds=>ofc agg ds fun v=>K v M
       | none=>False)
      | none=>False)
     | .mx rows=>bif Nat.beq j 0 then bif Nat.beq n 1 then LdM rows i fun r=>match r with
      | some (z,es)=>ofc agg [.row key (i+1) z 0 es.length] fun v=>K v M
      | none=>ofc agg [.nil] fun v=>K v M else False else False
     | .hx _ _ _=>False
     | .vw _ _=>False) else False
    | i'+1=>match c,ban with
     | .mx rows,[]=>GetM rows i' fun _ es=>LdR es i j n fun ds=>fL ds fun ds=>bif datL ds then ofc agg ds fun v=>K v M else False
     | .mx rows,b::r=>bif okC (b::r) then GetM rows i' fun _ es=>LdR es i j n fun ds=>fL ds fun ds=>bif datL ds then ofc agg ds fun v=>K v M else False else False
     | _,_=>False
   | none=>False
  | .dptr cs=>match part cs 0 n with
   | some ds=>fL ds fun ds=>bif datL ds then ofc agg ds fun v=>K v M else False
   | none=>False
  | _=>False
 | .st n x v=>stX tm M K n x v
 | .sto s n x v=>match ex tm x with
  | .ptr key 0 _ _=>(match mget M key with
   | some (s',_)=>bif Nat.beq s' s then stX tm M K n x v else False
   | none=>False)
  | _=>False
 | .callq f xs=>exF tm xs fun vs=>bif vs.all dq then CallP L f (vs.map unl) fun r=>FlP r fun r=>K r M else False
 | .mk s z bytes zero l c=>match ex tm l,ex tm c with
  | .int _ a,.int _ b=>bif Nat.beq zero.length z then bif datL zero then match zero with
   | [.nil]=>bif loSite s then MkM a b bytes fun rows n=>NewF s tm M fun k=>K (.row k 0 z 0 n) ((k,s,.mx rows)::M) else False
   | zero=>bif loSite s then (MkR a b bytes zero fun es n=>NewF s tm M fun k=>K (.row k 0 z 0 n) ((k,s,.rw z es)::M)) else False else False else False
  | _,_=>False
 | .slc z x lo hi=>obX tm lo fun lo=>obX tm hi fun hi=>match ex tm x with
  | .sl l es=>SlS z es lo hi fun es=>K (.sl l es) M
  | .row key t z' off len=>bif Nat.beq z' z then Bds lo hi len fun a h=>K (.row key t z (off+a) (h-a)) M else False
  | .nil=>(match lo,hi with
   | none,none=>K .nil M
   | some a,none=>Req (a=0) (K .nil M)
   | none,some h=>Req (h=0) (K .nil M)
   | some a,some h=>Req (a=0∧h=0) (K .nil M))
  | _=>False
 | .ext x i=>match ex tm x with
  | .tup vs=>f2 (lget vs i) fun v=>K v M
  | _=>False
 | .len x=>match ex tm x with
  | .sl _ es=>LenP es fun n=>K (.int .i64 (n:Int)) M
  | .nil=>K (.int .i64 0) M
  | .row _ _ _ _ n=>K (.int .i64 (n:Int)) M
  | _=>False
 | .mm mx xs=>match exL tm xs with
  | .int k a::r=>mmX mx k (fun v=>K v M) a r
  | _=>False
 | .app s z bytes x y=>match apX M (ex tm y) with
  | some (ky,some (k2,z2,n2))=>match ex tm x with
   | .row key 0 z' off len=>bif Nat.beq off 0 then bif Nat.beq z' 1 then bif Nat.beq z 1 then bif Nat.beq key k2 then False else bif Nat.beq key ky then False else bif Nat.beq k2 ky then False else (match mget M k2 with
    | some (_,.rw z3 es)=>bif Nat.beq z2 z3 then (match mget M key with
     | some (s',.mx rows)=>fM (mdel key (mdel k2 (mdel ky M))) fun M'=>Req (n2=es.length) (AppM rows len (some (z2,es)) bytes fun rows' n=>NewF s tm M fun k=>K (.row k 0 z 0 n) ((k,s',.mx rows')::M'))
     | _=>False) else False
    | _=>False) else False else False else False
   | .nil=>bif loSite s then bif Nat.beq z 1 then (match mget M k2 with
    | some (_,.rw z3 es)=>bif Nat.beq z2 z3 then fM (mdel k2 M) fun M'=>Req (n2=es.length∧bytes≤140737488355328) (NewF s tm M fun k=>K (.row k 0 z 0 1) ((k,s,.mx [some (z2,es)])::M')) else False
    | _=>False) else False else False
   | _=>False
  | some (ky,none)=>match ex tm x with
   | .row key 0 z' off len=>bif Nat.beq off 0 then bif Nat.beq z' 1 then bif Nat.beq z 1 then bif Nat.beq key ky then False else (match mget M key with
     | some (s',.mx rows)=>fM (mdel key M) fun M'=>AppM rows len none bytes fun rows' n=>NewF s tm M fun k=>K (.row k 0 z 0 n) ((k,s',.mx rows')::M')
     | _=>False) else False else False else False
   | .nil=>bif loSite s then bif Nat.beq z 1 then Req (bytes≤140737488355328) (NewF s tm M fun k=>K (.row k 0 z 0 1) ((k,s,.mx [none])::M)) else False else False
   | _=>False
  | none=>elX M (ex tm y) fun ys=>match ex tm x with
   | .row key 0 z' off len=>bif Nat.beq off 0 then bif Nat.beq z' z then (match mget M key with
    | some (s',.rw z'' es)=>bif Nat.beq z'' z then fM (mdel key M) fun M'=>(AppR es len ys z bytes fun es' n=>NewF s tm M fun k=>K (.row k 0 z 0 n) ((k,s',.rw z es')::M')) else False
    | _=>False) else False else False
   | .row key (i+1) z' off len=>bif Nat.beq off 0 then bif Nat.beq z' z then (match mget M key with
    | some (sk,.mx rows)=>fM (mdel key M) fun M'=>GetM rows i fun z'' es=>bif Nat.beq z'' z then (AppR es len ys z bytes fun es' n => ∀ s' v,NewF s tm M fun k=>K (.row k 0 z 0 n) ((k,s',.rw z es')::(key,sk,.hx i v (rows.set i none))::M')) else False
    | _=>False) else False else False
   | .nil=>bif loSite s then AppN ys z bytes fun es n=>NewF s tm M fun k=>K (.row k 0 z 0 n) ((k,s,.rw z es)::M) else False
   | _=>False
 | .appo s z bytes x y=>match ex tm y with
  | .sl _ ys=>match ex tm x with
   | .row key 0 z' off len=>bif Nat.beq off 0 then bif Nat.beq z' z then (match mget M key with
    | some (s',.rw z'' es)=>bif Nat.beq s' s then bif Nat.beq z'' z then fM (mdel key M) fun M'=>(AppR es len ys z bytes fun es' n=>NewF s tm M fun k=>K (.row k 0 z 0 n) ((k,s',.rw z es')::M')) else False else False
    | _=>False) else False else False
   | _=>False
  | _=>False
 | .cpy z x y=>elX M (ex tm y) fun ys=>match ex tm x with
  | .row key 0 z' off len=>bif Nat.beq z' z then (match mget M key with
   | some (s',.rw z'' es)=>bif Nat.beq z'' z then CpyR es off len ys z fun es' n=>K (.int .i64 (n:Int)) ((key,s',.rw z es')::M) else False
   | _=>False) else False
  | _=>False
 | .call f xs=>snX tm M ban xs fun vs=>CallP L f vs fun r=>K r M
 | .calli f xs=>exF tm xs fun vs=>CalP L f vs tm M K
 | .callr s f xs=>bif loSite s then snNX tm M ban xs fun vs=>CallR L f vs fun z es n=>NewF s tm M fun k=>K (.row k 0 z 0 n) ((k,s,.rw z es)::M) else False
 | .isn ne x=>match ex tm x with
  | .nil=>fB (xor true ne) fun c=>K (.bool c) M
  | .con (.bool b)=>fB (xor b ne) fun c=>K (.bool c) M
  | .sl _ es=>Req (es≠[]) (fB (xor false ne) fun c=>K (.bool c) M)
  | .row _ _ _ _ n=>Req (0<n) (fB (xor false ne) fun c=>K (.bool c) M)
  | _=>False
 | .bad=>False
 | .nck x=>match ex tm x with
  | .ptr key t i j=>K (.ptr key t i j) M
  | _=>False
 | .capn x=>match ex tm x with
  | .nil=>K (.int .i64 0) M
  | _=>False
 | .apz s z bytes x y=>match ex tm x,ex tm y with
  | .nil,.int _ n=>bif loSite s then Req (0<n∧n*bytes≤roomMax∧n≤9223372036854775807) (NewF s tm M fun k=>K (.row k 0 z 0 n.toNat) ((k,s,.rw z [])::M)) else False
  | _,_=>False
 | .cals s f xs=>exF tm xs fun vs=>match vs with
  | .ptr key 0 0 0::rest=>bif intA rest then CalS L s f key rest M K else False
  | _=>False
 | .apd s z bytes x y=>match ex tm x,ex tm y with
  | .nil,.sl _ ys=>bif loSite s then AppN ys z bytes fun es n=>Req (0<n) (NewF s tm M fun k=>K (.row k 0 z 0 n) ((k,s,.rw z es)::M)) else False
  | _,_=>False
 | .sidx tb x=>match ex tm x with
  | .int _ n=>TbP tb n fun v=>K (.int .u8 v) M
  | _=>False
 | .mkf p f xs=>oaX tm xs fun cs=>K (.fn p f (L.num f) cs) M
 | .callv x xs=>match ex tm x with
  | .fn true f g []=>Req (g=L.num f) (snX tm M [] xs fun vs=>CallP L f vs fun r=>K r M)
  | .fn false f g cs=>bif oneL cs then Req (g=L.num f) (exF tm xs fun vs=>fL (vs++cs) fun vs=>CalP L f vs tm M K) else False
  | _=>False
def tcl (key:Nat):Tm→Tm
 | []=>[]
 | (j,v)::r=>bif ch3 key v then (j,.any)::tcl key r else (j,v)::tcl key r
def xk (v:AV) (tm:Tm) (K:Tm→Prop):Prop:=match v with
 | .row key (_+1) _ _ _=>fT (tcl key tm) K
 | _=>K tm
noncomputable def XI (L:Lib) (o:AI) (ih:(Tm→Mem→Prop)→Tm→Mem→Prop) (K:Tm→Mem→Prop) (tm:Tm) (M:Mem):Prop:=match o with
 | ⟨some d,.app s z b x y,none,ban⟩=>XE L tm M ban (fun v M=>xk (ex tm x) tm fun tm=>ih K ((d,v)::tm) M) (.app s z b x y)
 | ⟨some d,op,none,ban⟩=>XE L tm M ban (fun v M=>ih K ((d,v)::tm) M) op
 | ⟨none,op,none,ban⟩=>XE L tm M ban (fun _ M=>ih K tm M) op
 | ⟨dst,op,some (g,w),ban⟩=>match tg tm g with
  | .bool b=>fB (b == w) fun c=>match c,dst with
   | true,some d=>XE L tm M ban (fun v M=>ih K ((d,v)::tm) M) op
   | true,none=>XE L tm M ban (fun _ M=>ih K tm M) op
   | false,some d=>ih K ((d,.tup [])::tm) M
   | false,none=>ih K tm M
  | .tup []=>match dst with
   | some d=>ih K ((d,.tup [])::tm) M
   | none=>ih K tm M
  | _=>False
noncomputable def XO (L:Lib) (l:List AI):(Tm→Mem→Prop)→Tm→Mem→Prop :=
 List.rec (motive:=fun _=>(Tm→Mem→Prop)→Tm→Mem→Prop) (fun K tm M=>K tm M) (fun o _ ih K tm M=>XI L o ih K tm M) l
noncomputable def XS (L:Lib) (Q:Tm→Mem→Prop) (ih:List It→Tm→Mem→Prop) (k:List It) (tm:Tm) (M:Mem):Prop:=match k with
 | []=>Q tm M
 | it::k=>match it with
  | .blk _=>ih k tm M
  | .drp ts ss=>fN (mask 0 ts) fun m=>fT (cnm m tm) fun tm=>match ss with
   | []=>ih k tm M
   | _::_=>False
  | .lp c=>AKM L (.lp c::k) tm M Q
  | .code c=>match c with
   | .skip=>ih k tm M
   | .ops l _=>XO L l (fun tm M=>ih k tm M) tm M
   | .dr c ts ss=>ih (.code c :: .drp ts ss::k) tm M
   | .scope c=>ih (.code c::k) tm M
   | .seq a b=>ih (.code a :: .code b::k) tm M
   | .cond x a b=>match ex tm x with
    | .bool b'=>fB b' fun c=>match c with
     | true=>ih (.code a::k) tm M
     | false=>ih (.code b::k) tm M
    | _=>False
   | .block id c=>ih (.code c :: .blk id::k) tm M
   | .loop c=>AKM L (.lp c::k) tm M Q
   | .exit id=>match exitA id k with
    | some k'=>ih k' tm M
    | none=>False
   | .ret=>Q tm M
noncomputable def XK (L:Lib) (Q:Tm→Mem→Prop) (n:Nat):List It→Tm→Mem→Prop :=
 Nat.rec (motive:=fun _=>List It→Tm→Mem→Prop) (fun k tm M=>AKM L k tm M Q) (fun _ ih k tm M=>XS L Q ih k tm M) n
def resX (tm:Tm) (M:Mem) (r:ARes) (K:AV→Prop):Prop:=match r with
 | .tmp t=>f2 (tg tm t) K
 | .cell t agg n=>match tg tm t with
  | .ptr key 0 i j=>match mget M key with
   | some (_,.bx cs)=>bif Nat.beq i 0 then (match part cs j n with
    | some ds=>fL ds fun ds=>ofc agg ds K
    | none=>False) else False
   | _=>False
  | _=>False
noncomputable def resLX (tm:Tm) (M:Mem) (l:List ARes):(List AV→Prop)→Prop :=
 List.rec (motive:=fun _=>(List AV→Prop)→Prop) (fun K=>K []) (fun x _ ih K=>resX tm M x fun v=>ih fun vs=>K (v::vs)) l
noncomputable def snAL (q:Bool) (M:Mem) (l:List AV):(List AV→Prop)→Prop :=
 List.rec (motive:=fun _=>(List AV→Prop)→Prop) (fun K=>K []) (fun x _ ih K=>snA q M [] x fun v=>ih fun vs=>K (v::vs)) l
def rsv (vs:List AV) (K:AV→Prop):Prop:=match vs with
 | [v]=>K v
 | vs=>K (.tup vs)
def FinP (a r:AV):Prop:=a=r∧Clean r
noncomputable def RetX (fn:AFn) (r:AV) (tm:Tm) (M:Mem):Prop:=resLX tm M fn.res fun vs=>snAL false M vs fun vs=>rsv vs fun v=>FinP v r
end Go.Eng
