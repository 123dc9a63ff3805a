/- Lemmas. -/
import Derived.Test.YtdfinmcogbkffaaGreatDoorMai
namespace Go.Proofs.YtdfinmcogbkffaaGreatDoor
open Go.RowKit
set_option linter.unusedVariables false
set_option linter.unusedSimpArgs false
set_option maxHeartbeats 16000000
open _root_.Go.Proofs.Tryz
set_option maxRecDepth 20000
theorem Db:dY prog 102 166 3 40:=fQ (z:= .agg #[.int .i64 0,.string ByteArray.empty,.string ByteArray.empty]) underlying102 (by kernel_rfl) rfl qe
theorem xD:dY prog 101 178 4 48:=fQ (z:= .agg #[.string ByteArray.empty,.int .i64 0,.int .i64 0,.string ByteArray.empty]) underlying101 (by kernel_rfl) rfl qe
theorem zT:dY prog 46 104 5 96:=fQ (z:= .agg #[.string ByteArray.empty,.string ByteArray.empty,.string ByteArray.empty,.slice none 0 0,.slice none 0 0]) underlying46 (by kernel_rfl) rfl qe
theorem Tl:dY prog 47 159 7 88:=fQ (z:= .agg #[.int .i64 0,.int .i64 0,.string ByteArray.empty,.string ByteArray.empty,.string ByteArray.empty,.string ByteArray.empty,.bool false]) underlying47 (by kernel_rfl) rfl qe
theorem Tm:dY prog 48 162 3 40:=fQ (z:= .agg #[.int .i64 0,.string ByteArray.empty,.string ByteArray.empty]) underlying48 (by kernel_rfl) rfl qe
theorem Tn:dY prog 49 150 2 32:=fQ (z:= .agg #[.string ByteArray.empty,.string ByteArray.empty]) underlying49 (by kernel_rfl) rfl qe
theorem aC1:dY prog 54 173 3 32:=fQ (z:= .agg #[.int .i64 0,.int .i64 0,.string ByteArray.empty]) underlying54 (by kernel_rfl) rfl qe
theorem aC2:dY prog 305 270 7 72:=fQ (z:= .agg #[.int .i64 0,.string ByteArray.empty,.bool false,.int .i64 0,.int .i64 0,.int .i64 0,.string ByteArray.empty]) underlying305 (by kernel_rfl) rfl qe
theorem aC3:dY prog 258 283 7 72:=fQ (z:= .agg #[.int .i64 0,.int .i64 0,.int .i64 0,.string ByteArray.empty,.int .i64 0,.string ByteArray.empty,.bool false]) underlying258 (by kernel_rfl) rfl qe
theorem aC4:dY prog 52 260 5 96:=fQ (z:= .agg #[.string ByteArray.empty,.bool false,.slice none 0 0,.slice none 0 0,.slice none 0 0]) underlying52 (by kernel_rfl) rfl qe
theorem aC5:dY prog 53 56 7 128:=fQ (z:= .agg #[.string ByteArray.empty,.bool false,.int .i64 0,.slice none 0 0,.slice none 0 0,.slice none 0 0,.slice none 0 0]) underlying53 (by kernel_rfl) rfl qe
theorem CW{ok:nP}(v:Value)(l:List uC)(w:World)(h:aH mU w ok v l):Calls prog 80 #[v] w (bU mU 3 166 ok l w):=by
 obtain⟨a,c,rfl,n⟩:=h.slice;unfold bU
 rcases a with _|k
 .have B:=kH cC qe h;subst B;have heq:=Lib.run_eql_slice_nil (P:=prog) w 102 166 none 0 c 0 0 underlying102;clear h;go_enter func80,ntmps80;exact BJ
 .obtain⟨D,E,cs,b,h1,h2,_⟩:=h;injection b with b _ z;subst b z;have heq:=Lib.run_eql_slice_nil (P:=prog) w 102 166 (some k) l.length c 0 0 underlying102;have d:Below w.heap.size w (w.alloc (.cells #[] 166)):=(Below.refl _ _).alloc (lR _) _;have g:=aA (World.ownsRow_made (e:=166) w #[] 0 (lR _) (by simp[maxLen]) rfl:(w.alloc (.cells #[] 166)).ownsRow w.heap.size 166 3 (.slice (some ⟨w.heap.size,0,none⟩) 0 0) 0 []);have s:=aA (h2.len (fun _ _ f=>cC.len f));have t:=aA (h2.aD7 (fun _ _ f=>cC.one f));obtain⟨y,r,q,j⟩:=dE (h1.lt.below d) h2 d n;clear h1 h2 d n;go_enter func80,ntmps80;go_wp2_with (at_builtin;refine fR Db rfl (.tmp 5) (.tmp 6) rfl w.heap.size (.slice (some ⟨w.heap.size,0,none⟩) 0 0) 0 [] rfl g.o (some k) l.length c cs rfl s.o (y.o.more qs) t.o (by have:=j.o;unfold maxLen;omega) (qA j.o) qs ?_;intro C c1 w1 p m A;have i:=aA (dW g.o q.o m (lR _) qs);have x:=aA p;clear p m A)
  go_returns;have o:=x.o;simp only[Nat.zero_add,List.nil_append] at o ⊢;exact⟨_,rfl,lM cC r.o i.o o,i.o⟩
theorem TY{ok:nP}(v:Value)(l:List pT)(w:World)(h:aH lH w ok v l):Calls prog 141 #[v] w (bU lH 4 178 ok l w):=by
 obtain⟨a,c,rfl,n⟩:=h.slice;unfold bU
 rcases a with _|k
 .have B:=kH bP qe h;subst B;have heq:=Lib.run_eql_slice_nil (P:=prog) w 101 178 none 0 c 0 0 underlying101;clear h;go_enter func141,ntmps141;exact BJ
 .obtain⟨D,E,cs,b,h1,h2,_⟩:=h;injection b with b _ z;subst b z;have heq:=Lib.run_eql_slice_nil (P:=prog) w 101 178 (some k) l.length c 0 0 underlying101;have d:Below w.heap.size w (w.alloc (.cells #[] 178)):=(Below.refl _ _).alloc (lR _) _;have g:=aA (World.ownsRow_made (e:=178) w #[] 0 (lR _) (by simp[maxLen]) rfl:(w.alloc (.cells #[] 178)).ownsRow w.heap.size 178 4 (.slice (some ⟨w.heap.size,0,none⟩) 0 0) 0 []);have s:=aA (h2.len (fun _ _ f=>bP.len f));have t:=aA (h2.aD7 (fun _ _ f=>bP.one f));obtain⟨y,r,q,j⟩:=dE (h1.lt.below d) h2 d n;clear h1 h2 d n;go_enter func141,ntmps141;go_wp2_with (at_builtin;refine fR xD rfl (.tmp 5) (.tmp 6) rfl w.heap.size (.slice (some ⟨w.heap.size,0,none⟩) 0 0) 0 [] rfl g.o (some k) l.length c cs rfl s.o (y.o.more qs) t.o (by have:=j.o;unfold maxLen;omega) (qA j.o) qs ?_;intro C c1 w1 p m A;have i:=aA (dW g.o q.o m (lR _) qs);have x:=aA p;clear p m A)
  go_returns;have o:=x.o;simp only[Nat.zero_add,List.nil_append] at o ⊢;exact⟨_,rfl,lM bP r.o i.o o,i.o⟩
theorem CX{ok:nP}(v:Value)(l:List cG)(w:World)(h:aH qC w ok v l):Calls prog 79 #[v] w (bU qC 5 104 ok l w):=by
 obtain⟨a,c,rfl,n⟩:=h.slice;unfold bU
 rcases a with _|k
 .have B:=kH dV qe h;subst B;have heq:=Lib.run_eql_slice_nil (P:=prog) w 46 104 none 0 c 0 0 underlying46;clear h;go_enter func79,ntmps79;exact BJ
 .obtain⟨D,E,cs,b,h1,h2,_⟩:=h;injection b with b _ z;subst b z;have heq:=Lib.run_eql_slice_nil (P:=prog) w 46 104 (some k) l.length c 0 0 underlying46;have d:Below w.heap.size w (w.alloc (.cells #[] 104)):=(Below.refl _ _).alloc (lR _) _;have g:=aA (World.ownsRow_made (e:=104) w #[] 0 (lR _) (by simp[maxLen]) rfl:(w.alloc (.cells #[] 104)).ownsRow w.heap.size 104 5 (.slice (some ⟨w.heap.size,0,none⟩) 0 0) 0 []);have s:=aA (h2.len (fun _ _ f=>dV.len f));have t:=aA (h2.aD7 (fun _ _ f=>dV.one f));obtain⟨y,r,q,j⟩:=dE (h1.lt.below d) h2 d n;clear h1 h2 d n;go_enter func79,ntmps79;go_wp2_with (at_builtin;refine fR zT rfl (.tmp 5) (.tmp 6) rfl w.heap.size (.slice (some ⟨w.heap.size,0,none⟩) 0 0) 0 [] rfl g.o (some k) l.length c cs rfl s.o (y.o.more qs) t.o (by have:=j.o;unfold maxLen;omega) (qA j.o) qs ?_;intro C c1 w1 p m A;have i:=aA (dW g.o q.o m (lR _) qs);have x:=aA p;clear p m A)
  go_returns;have o:=x.o;simp only[Nat.zero_add,List.nil_append] at o ⊢;exact⟨_,rfl,lM dV r.o i.o o,i.o⟩
theorem CY{ok:nP}(v:Value)(l:List wF)(w:World)(h:aH sZ w ok v l):Calls prog 77 #[v] w (bU sZ 7 159 ok l w):=by
 obtain⟨a,c,rfl,n⟩:=h.slice;unfold bU
 rcases a with _|k
 .have B:=kH cV qe h;subst B;have heq:=Lib.run_eql_slice_nil (P:=prog) w 47 159 none 0 c 0 0 underlying47;clear h;go_enter func77,ntmps77;exact BJ
 .obtain⟨D,E,cs,b,h1,h2,_⟩:=h;injection b with b _ z;subst b z;have heq:=Lib.run_eql_slice_nil (P:=prog) w 47 159 (some k) l.length c 0 0 underlying47;have d:Below w.heap.size w (w.alloc (.cells #[] 159)):=(Below.refl _ _).alloc (lR _) _;have g:=aA (World.ownsRow_made (e:=159) w #[] 0 (lR _) (by simp[maxLen]) rfl:(w.alloc (.cells #[] 159)).ownsRow w.heap.size 159 7 (.slice (some ⟨w.heap.size,0,none⟩) 0 0) 0 []);have s:=aA (h2.len (fun _ _ f=>cV.len f));have t:=aA (h2.aD7 (fun _ _ f=>cV.one f));obtain⟨y,r,q,j⟩:=dE (h1.lt.below d) h2 d n;clear h1 h2 d n;go_enter func77,ntmps77;go_wp2_with (at_builtin;refine fR Tl rfl (.tmp 5) (.tmp 6) rfl w.heap.size (.slice (some ⟨w.heap.size,0,none⟩) 0 0) 0 [] rfl g.o (some k) l.length c cs rfl s.o (y.o.more qs) t.o (by have:=j.o;unfold maxLen;omega) (qA j.o) qs ?_;intro C c1 w1 p m A;have i:=aA (dW g.o q.o m (lR _) qs);have x:=aA p;clear p m A)
  go_returns;have o:=x.o;simp only[Nat.zero_add,List.nil_append] at o ⊢;exact⟨_,rfl,lM cV r.o i.o o,i.o⟩
theorem CZ{ok:nP}(v:Value)(l:List xV)(w:World)(h:aH wG w ok v l):Calls prog 78 #[v] w (bU wG 3 162 ok l w):=by
 obtain⟨a,c,rfl,n⟩:=h.slice;unfold bU
 rcases a with _|k
 .have B:=kH eB qe h;subst B;have heq:=Lib.run_eql_slice_nil (P:=prog) w 48 162 none 0 c 0 0 underlying48;clear h;go_enter func78,ntmps78;exact BJ
 .obtain⟨D,E,cs,b,h1,h2,_⟩:=h;injection b with b _ z;subst b z;have heq:=Lib.run_eql_slice_nil (P:=prog) w 48 162 (some k) l.length c 0 0 underlying48;have d:Below w.heap.size w (w.alloc (.cells #[] 162)):=(Below.refl _ _).alloc (lR _) _;have g:=aA (World.ownsRow_made (e:=162) w #[] 0 (lR _) (by simp[maxLen]) rfl:(w.alloc (.cells #[] 162)).ownsRow w.heap.size 162 3 (.slice (some ⟨w.heap.size,0,none⟩) 0 0) 0 []);have s:=aA (h2.len (fun _ _ f=>eB.len f));have t:=aA (h2.aD7 (fun _ _ f=>eB.one f));obtain⟨y,r,q,j⟩:=dE (h1.lt.below d) h2 d n;clear h1 h2 d n;go_enter func78,ntmps78;go_wp2_with (at_builtin;refine fR Tm rfl (.tmp 5) (.tmp 6) rfl w.heap.size (.slice (some ⟨w.heap.size,0,none⟩) 0 0) 0 [] rfl g.o (some k) l.length c cs rfl s.o (y.o.more qs) t.o (by have:=j.o;unfold maxLen;omega) (qA j.o) qs ?_;intro C c1 w1 p m A;have i:=aA (dW g.o q.o m (lR _) qs);have x:=aA p;clear p m A)
  go_returns;have o:=x.o;simp only[Nat.zero_add,List.nil_append] at o ⊢;exact⟨_,rfl,lM eB r.o i.o o,i.o⟩
theorem TZ{ok:nP}(v:Value)(l:List xB)(w:World)(h:aH qX w ok v l):Calls prog 134 #[v] w (bU qX 2 150 ok l w):=by
 obtain⟨a,c,rfl,n⟩:=h.slice;unfold bU
 rcases a with _|k
 .have B:=kH dC qe h;subst B;have heq:=Lib.run_eql_slice_nil (P:=prog) w 49 150 none 0 c 0 0 underlying49;clear h;go_enter func134,ntmps134;exact BJ
 .obtain⟨D,E,cs,b,h1,h2,_⟩:=h;injection b with b _ z;subst b z;have heq:=Lib.run_eql_slice_nil (P:=prog) w 49 150 (some k) l.length c 0 0 underlying49;have d:Below w.heap.size w (w.alloc (.cells #[] 150)):=(Below.refl _ _).alloc (lR _) _;have g:=aA (World.ownsRow_made (e:=150) w #[] 0 (lR _) (by simp[maxLen]) rfl:(w.alloc (.cells #[] 150)).ownsRow w.heap.size 150 2 (.slice (some ⟨w.heap.size,0,none⟩) 0 0) 0 []);have s:=aA (h2.len (fun _ _ f=>dC.len f));have t:=aA (h2.aD7 (fun _ _ f=>dC.one f));obtain⟨y,r,q,j⟩:=dE (h1.lt.below d) h2 d n;clear h1 h2 d n;go_enter func134,ntmps134;go_wp2_with (at_builtin;refine fR Tn rfl (.tmp 5) (.tmp 6) rfl w.heap.size (.slice (some ⟨w.heap.size,0,none⟩) 0 0) 0 [] rfl g.o (some k) l.length c cs rfl s.o (y.o.more qs) t.o (by have:=j.o;unfold maxLen;omega) (qA j.o) qs ?_;intro C c1 w1 p m A;have i:=aA (dW g.o q.o m (lR _) qs);have x:=aA p;clear p m A)
  go_returns;have o:=x.o;simp only[Nat.zero_add,List.nil_append] at o ⊢;exact⟨_,rfl,lM dC r.o i.o o,i.o⟩
theorem FW{ok:nP}(v:Value)(l:List Ob)(w:World)(h:aH jZ w ok v l):Calls prog 186 #[v] w (bU jZ 3 173 ok l w):=by
 obtain⟨a,c,rfl,n⟩:=h.slice;unfold bU
 rcases a with _|k
 .have B:=kH aO qe h;subst B;have heq:=Lib.run_eql_slice_nil (P:=prog) w 54 173 none 0 c 0 0 underlying54;clear h;go_enter func186,ntmps186;exact BJ
 .obtain⟨D,E,cs,b,h1,h2,_⟩:=h;injection b with b _ z;subst b z;have heq:=Lib.run_eql_slice_nil (P:=prog) w 54 173 (some k) l.length c 0 0 underlying54;have d:Below w.heap.size w (w.alloc (.cells #[] 173)):=(Below.refl _ _).alloc (lR _) _;have g:=aA (World.ownsRow_made (e:=173) w #[] 0 (lR _) (by simp[maxLen]) rfl:(w.alloc (.cells #[] 173)).ownsRow w.heap.size 173 3 (.slice (some ⟨w.heap.size,0,none⟩) 0 0) 0 []);have s:=aA (h2.len (fun _ _ f=>aO.len f));have t:=aA (h2.aD7 (fun _ _ f=>aO.one f));obtain⟨y,r,q,j⟩:=dE (h1.lt.below d) h2 d n;clear h1 h2 d n;go_enter func186,ntmps186;go_wp2_with (at_builtin;refine fR aC1 rfl (.tmp 5) (.tmp 6) rfl w.heap.size (.slice (some ⟨w.heap.size,0,none⟩) 0 0) 0 [] rfl g.o (some k) l.length c cs rfl s.o (y.o.more qs) t.o (by have:=j.o;unfold maxLen;omega) (qA j.o) qs ?_;intro C c1 w1 p m A;have i:=aA (dW g.o q.o m (lR _) qs);have x:=aA p;clear p m A)
  go_returns;have o:=x.o;simp only[Nat.zero_add,List.nil_append] at o ⊢;exact⟨_,rfl,lM aO r.o i.o o,i.o⟩
theorem YA{ok:nP}(v:Value)(l:List Ma)(w:World)(h:aH rR w ok v l):Calls prog 229 #[v] w (bU rR 7 270 ok l w):=by
 obtain⟨a,c,rfl,n⟩:=h.slice;unfold bU
 rcases a with _|k
 .have B:=kH eR qe h;subst B;have heq:=Lib.run_eql_slice_nil (P:=prog) w 305 270 none 0 c 0 0 underlying305;clear h;go_enter func229,ntmps229;exact BJ
 .obtain⟨D,E,cs,b,h1,h2,_⟩:=h;injection b with b _ z;subst b z;have heq:=Lib.run_eql_slice_nil (P:=prog) w 305 270 (some k) l.length c 0 0 underlying305;have d:Below w.heap.size w (w.alloc (.cells #[] 270)):=(Below.refl _ _).alloc (lR _) _;have g:=aA (World.ownsRow_made (e:=270) w #[] 0 (lR _) (by simp[maxLen]) rfl:(w.alloc (.cells #[] 270)).ownsRow w.heap.size 270 7 (.slice (some ⟨w.heap.size,0,none⟩) 0 0) 0 []);have s:=aA (h2.len (fun _ _ f=>eR.len f));have t:=aA (h2.aD7 (fun _ _ f=>eR.one f));obtain⟨y,r,q,j⟩:=dE (h1.lt.below d) h2 d n;clear h1 h2 d n;go_enter func229,ntmps229;go_wp2_with (at_builtin;refine fR aC2 rfl (.tmp 5) (.tmp 6) rfl w.heap.size (.slice (some ⟨w.heap.size,0,none⟩) 0 0) 0 [] rfl g.o (some k) l.length c cs rfl s.o (y.o.more qs) t.o (by have:=j.o;unfold maxLen;omega) (qA j.o) qs ?_;intro C c1 w1 p m A;have i:=aA (dW g.o q.o m (lR _) qs);have x:=aA p;clear p m A)
  go_returns;have o:=x.o;simp only[Nat.zero_add,List.nil_append] at o ⊢;exact⟨_,rfl,lM eR r.o i.o o,i.o⟩
theorem YB{ok:nP}(v:Value)(l:List No)(w:World)(h:aH JP w ok v l):Calls prog 189 #[v] w (bU JP 7 283 ok l w):=by
 obtain⟨a,c,rfl,n⟩:=h.slice;unfold bU
 rcases a with _|k
 .have B:=kH dQ qe h;subst B;have heq:=Lib.run_eql_slice_nil (P:=prog) w 258 283 none 0 c 0 0 underlying258;clear h;go_enter func189,ntmps189;exact BJ
 .obtain⟨D,E,cs,b,h1,h2,_⟩:=h;injection b with b _ z;subst b z;have heq:=Lib.run_eql_slice_nil (P:=prog) w 258 283 (some k) l.length c 0 0 underlying258;have d:Below w.heap.size w (w.alloc (.cells #[] 283)):=(Below.refl _ _).alloc (lR _) _;have g:=aA (World.ownsRow_made (e:=283) w #[] 0 (lR _) (by simp[maxLen]) rfl:(w.alloc (.cells #[] 283)).ownsRow w.heap.size 283 7 (.slice (some ⟨w.heap.size,0,none⟩) 0 0) 0 []);have s:=aA (h2.len (fun _ _ f=>dQ.len f));have t:=aA (h2.aD7 (fun _ _ f=>dQ.one f));obtain⟨y,r,q,j⟩:=dE (h1.lt.below d) h2 d n;clear h1 h2 d n;go_enter func189,ntmps189;go_wp2_with (at_builtin;refine fR aC3 rfl (.tmp 5) (.tmp 6) rfl w.heap.size (.slice (some ⟨w.heap.size,0,none⟩) 0 0) 0 [] rfl g.o (some k) l.length c cs rfl s.o (y.o.more qs) t.o (by have:=j.o;unfold maxLen;omega) (qA j.o) qs ?_;intro C c1 w1 p m A;have i:=aA (dW g.o q.o m (lR _) qs);have x:=aA p;clear p m A)
  go_returns;have o:=x.o;simp only[Nat.zero_add,List.nil_append] at o ⊢;exact⟨_,rfl,lM dQ r.o i.o o,i.o⟩
theorem YC{ok:nP}(v:Value)(l:List Ru)(w:World)(h:aH yL w ok v l):Calls prog 187 #[v] w (bU yL 5 260 ok l w):=by
 obtain⟨a,c,rfl,n⟩:=h.slice;unfold bU
 rcases a with _|k
 .have B:=kH bM qe h;subst B;have heq:=Lib.run_eql_slice_nil (P:=prog) w 52 260 none 0 c 0 0 underlying52;clear h;go_enter func187,ntmps187;exact BJ
 .obtain⟨D,E,cs,b,h1,h2,_⟩:=h;injection b with b _ z;subst b z;have heq:=Lib.run_eql_slice_nil (P:=prog) w 52 260 (some k) l.length c 0 0 underlying52;have d:Below w.heap.size w (w.alloc (.cells #[] 260)):=(Below.refl _ _).alloc (lR _) _;have g:=aA (World.ownsRow_made (e:=260) w #[] 0 (lR _) (by simp[maxLen]) rfl:(w.alloc (.cells #[] 260)).ownsRow w.heap.size 260 5 (.slice (some ⟨w.heap.size,0,none⟩) 0 0) 0 []);have s:=aA (h2.len (fun _ _ f=>bM.len f));have t:=aA (h2.aD7 (fun _ _ f=>bM.one f));obtain⟨y,r,q,j⟩:=dE (h1.lt.below d) h2 d n;clear h1 h2 d n;go_enter func187,ntmps187;go_wp2_with (at_builtin;refine fR aC4 rfl (.tmp 5) (.tmp 6) rfl w.heap.size (.slice (some ⟨w.heap.size,0,none⟩) 0 0) 0 [] rfl g.o (some k) l.length c cs rfl s.o (y.o.more qs) t.o (by have:=j.o;unfold maxLen;omega) (qA j.o) qs ?_;intro C c1 w1 p m A;have i:=aA (dW g.o q.o m (lR _) qs);have x:=aA p;clear p m A)
  go_returns;have o:=x.o;simp only[Nat.zero_add,List.nil_append] at o ⊢;exact⟨_,rfl,lM bM r.o i.o o,i.o⟩
theorem YD{n:Nat}{ok:nP}(v:Value)(l:List Po)(w:World)(h:aH (qI n) w ok v l):Calls prog 188 #[v] w (bU (qI n) 7 56 ok l w):=by
 obtain⟨a,c,rfl,o⟩:=h.slice;unfold bU
 rcases a with _|k
 .have C:=kH (bB n) qe h;subst C;have heq:=Lib.run_eql_slice_nil (P:=prog) w 53 56 none 0 c 0 0 underlying53;clear h;go_enter func188,ntmps188;exact BJ
 .obtain⟨E,F,cs,b,h1,h2,_⟩:=h;injection b with b _ A;subst b A;have heq:=Lib.run_eql_slice_nil (P:=prog) w 53 56 (some k) l.length c 0 0 underlying53;have d:Below w.heap.size w (w.alloc (.cells #[] 56)):=(Below.refl _ _).alloc (lR _) _;have g:=aA (World.ownsRow_made (e:=56) w #[] 0 (lR _) (by simp[maxLen]) rfl:(w.alloc (.cells #[] 56)).ownsRow w.heap.size 56 7 (.slice (some ⟨w.heap.size,0,none⟩) 0 0) 0 []);have t:=aA (h2.len (fun _ _ f=>(bB n).len f));have x:=aA (h2.aD7 (fun _ _ f=>(bB n).one f));obtain⟨z,s,r,j⟩:=dE (h1.lt.below d) h2 d o;clear h1 h2 d o;go_enter func188,ntmps188;go_wp2_with (at_builtin;refine fR aC5 rfl (.tmp 5) (.tmp 6) rfl w.heap.size (.slice (some ⟨w.heap.size,0,none⟩) 0 0) 0 [] rfl g.o (some k) l.length c cs rfl t.o (z.o.more qs) x.o (by have:=j.o;unfold maxLen;omega) (qA j.o) qs ?_;intro D c1 w1 q m B;have i:=aA (dW g.o r.o m (lR _) qs);have y:=aA q;clear q m B)
  go_returns;have p:=y.o;simp only[Nat.zero_add,List.nil_append] at p ⊢;exact⟨_,rfl,lM (bB n) s.o i.o p,i.o⟩
theorem Il(a b:bY):(!Op.bytesLess a.toList b.toList)=gU b a:=by
 rw[wH];unfold gU;by_cases h:a.toList<b.toList
 .rw[dX h,dF (fun k=>k h)];rfl
 .rw[dF h,dX h];rfl
theorem Im(x:cG)(a la:oD)(b lc:Nat)(p:Nat)(N:bY)(w:World)(hp:jD w p 0 (.string N)):Calls prog 118 #[.agg #[.string x.id,.string x.aD2,.string x.aDU,.slice a x.aDE.length b,.slice la x.log.length lc],.pointer (some ⟨p,0,none⟩)] w (aP (.bool (gU N x.id)) w):=by
 unfold aP;have h1:p≠w.heap.size:=qA hp.2;obtain⟨hp,c⟩:=hp;go_enter func118,ntmps118;go_wp2;go_returns;exact⟨bH (Il x.id N),aB _ _⟩
theorem Dc(x:pT)(p:Nat)(N:bY)(w:World)(hp:jD w p 0 (.string N)):Calls prog 89 #[.agg #[.string x.1,.int .i64 x.2.1,.int .i64 x.2.2.1,.string x.2.2.2],.pointer (some ⟨p,0,none⟩)] w (aP (.bool (decide (x.1=N))) w):=by
 unfold aP;have h1:p≠w.heap.size:=qA hp.2;obtain⟨hp,a⟩:=hp;go_enter func89,ntmps89;go_wp2;go_returns;exact⟨bH (jH x.1 N),aB _ _⟩
theorem Dd(x:pT)(p:Nat)(N:bY)(w:World)(hp:jD w p 0 (.string N)):Calls prog 138 #[.agg #[.string x.1,.int .i64 x.2.1,.int .i64 x.2.2.1,.string x.2.2.2],.pointer (some ⟨p,0,none⟩)] w (aP (.bool (gU N x.1)) w):=by
 unfold aP;have h1:p≠w.heap.size:=qA hp.2;obtain⟨hp,a⟩:=hp;go_enter func138,ntmps138;go_wp2;go_returns;exact⟨bH (Il x.1 N),aB _ _⟩
theorem Io(x:uC)(p:Nat)(N:bY)(w:World)(hp:jD w p 0 (.string N)):Calls prog 183 #[.agg #[.int .i64 x.aDI,.string x.aD8,.string x.aEF],.pointer (some ⟨p,0,none⟩)] w (aP (.bool (decide (x.aD8=N))) w):=by
 unfold aP;have h1:p≠w.heap.size:=qA hp.2;obtain⟨hp,a⟩:=hp;go_enter func183,ntmps183;go_wp2;go_returns;exact⟨bH (jH x.aD8 N),aB _ _⟩
theorem Ip(x:cG)(a la:oD)(b lc:Nat)(p:Nat)(N:bY)(w:World)(hp:jD w p 2 (.string N)):Calls prog 142 #[.agg #[.string x.id,.string x.aD2,.string x.aDU,.slice a x.aDE.length b,.slice la x.log.length lc],.pointer (some ⟨p,0,none⟩)] w (aP (.bool (decide (x.id=N))) w):=by
 unfold aP;have h1:p≠w.heap.size:=qA hp.2;obtain⟨hp,c⟩:=hp;go_enter func142,ntmps142;go_wp2;go_returns;exact⟨bH (jH x.id N),aB _ _⟩
theorem Iq(x:cG)(a la:oD)(b lc:Nat)(w:World):Calls prog 92 #[.agg #[.string x.id,.string x.aD2,.string x.aDU,.slice a x.aDE.length b,.slice la x.log.length lc]] w (aP (.bool (decide (256<x.log.length))) w):=by
 unfold aP;go_enter func92,ntmps92;go_wp2;go_returns;exact⟨bH (by rw[Bool.eq_iff_iff];simp;omega),aB _ _⟩
theorem De(x:Ob)(p:Nat)(N:bY)(w:World)(hp:jD w p 0 (.string N)):Calls prog 86 #[.agg #[.int .i64 x.on,.int .i64 x.aDy,.string x.arg],.pointer (some ⟨p,0,none⟩)] w (aP (.bool (decide (x.aDy=2)&&decide (x.arg=N))) w):=by
 unfold aP;have h1:p≠w.heap.size:=qA hp.2;obtain⟨hp,e⟩:=hp;obtain⟨f,b,d⟩:=x;dsimp only;go_enter func86,ntmps86;by_cases a:b=2
 .have c:(b==2)=true:=bQ.2 a;go_wp2;go_returns;refine⟨bH ?_,aB _ _⟩;rw[dX a,Bool.true_and];exact jH d N
 .have c:(b==2)=false:=bN.2 a;go_wp2;go_returns;refine⟨bH ?_,aB _ _⟩;rw[dF a];rfl
theorem Ir(x:wF)(p q:Nat)(N:bY)(T:Int)(w:World)(hp:jD w p 0 (.string N))(b:jD w q 0 (.int .i64 T))(e:0<=x.aDI/\x.aDI<=T/\T<=1099511627776):Calls prog 133 #[.agg #[.int .i64 x.id,.int .i64 x.aDI,.string x.aDO,.string x.aDF,.string x.action,.string x.aDX,.bool x.open_],.pointer (some ⟨p,0,none⟩),.pointer (some ⟨q,0,none⟩)] w (aP (.bool (decide (x.aDO=N)&&(x.open_&&decide (100<=T - x.aDI)))) w):=by
 unfold aP;have h1:p≠w.heap.size:=qA hp.2;have h2:q≠w.heap.size:=qA b.2;obtain⟨hp,g⟩:=hp;obtain⟨b,i⟩:=b;obtain⟨j,k,c,l,m,n,f⟩:=x;dsimp only at e ⊢;go_enter func133,ntmps133;by_cases a:c=N
 .have d:(c.toList==N.toList)=true:=by rw[jH];exact dX a
  cases f
  .go_wp2;go_returns;exact⟨bH (by rw[dX a];rfl),aB _ _⟩
  .go_wp2;go_returns;exact⟨bH (by rw[dX a];simp),aB _ _⟩
 .have d:(c.toList==N.toList)=false:=by rw[jH];exact dF a
  go_wp2;go_returns;exact⟨bH (by rw[dF a];rfl),aB _ _⟩
theorem YE{ok:nP}(v:Value)(l:List cG)(N:bY)(p:Nat)(w:World)(h:aH qC w ok v l)(m:jD w p 0 (.string N)):Calls prog 117 #[v,.func (.func 118) #[] #[.pointer (some ⟨p,0,none⟩)]] w (aP (.int .i64 (eV (fun x=>gU N x.id) l)) w):=by
 obtain⟨a,c,rfl,B⟩:=h.slice;have s:=aA h;have o:=aA (fun wr (t:Below w.heap.size w wr)=>(m.on t:jD wr p 0 (.string N)));clear h m;obtain⟨PR,d⟩:∃PR:cG->Bool,PR=(fun x=>gU N x.id):=⟨_,rfl⟩;have q:=aA d;rw[<-d];clear d;unfold aP;go_enter func117,ntmps117;go_wp2;go_loopw [5,8] (fun _ i wr=>∃k:Nat,k<=l.length/\i=.int .i64 k/\Hid (∀i (hi:i<l.length),i<k->PR l[i]=false)/\Hid (Below w.heap.size w wr)) (fun _ i _=>l.length - (intOf i).toNat)
 case atStart=>exact BI
 case round=>
  obtain⟨k,A,rfl,HR,HB⟩:=hrel;by_cases hlt:k<l.length
  .have hk1:(k:Int)<(l.length:Int):=qo;obtain⟨b,off,r,rfl,_,z,⟨C,D,rfl,n⟩,hcl⟩:=aH.at dV (s.o.on dV HB.o) hlt qe;obtain⟨f,j,rfl,_⟩:=n.2.2.2.1.slice;obtain⟨la,lc,rfl,_⟩:=n.2.2.2.2.slice;obtain⟨y,E,F,G,H⟩:=JW hcl;rw[Nat.add_zero] at y;have HI:Hid (Calls prog 118 #[.agg #[.string l[k].id,.string l[k].aD2,.string l[k].aDU,.slice f l[k].aDE.length j,.slice la l[k].log.length lc],.pointer (some ⟨p,0,none⟩)] wr (aP (.bool (PR l[k])) wr)):=by rw[q.o];exact aA (Im l[k] f la j lc p N wr (o.o wr HB.o))
   exact KG
  .exact KF
theorem UA{ok:nP}(v:Value)(l:List pT)(N:bY)(p:Nat)(w:World)(h:aH lH w ok v l)(f:jD w p 0 (.string N)):Calls prog 88 #[v,.func (.func 89) #[] #[.pointer (some ⟨p,0,none⟩)]] w (aP (.int .i64 (eV (fun x=>decide (x.1=N)) l)) w):=by
 obtain⟨a,c,rfl,z⟩:=h.slice;have n:=aA h;have j:=aA (fun wr (o:Below w.heap.size w wr)=>(f.on o:jD wr p 0 (.string N)));clear h f;obtain⟨PR,d⟩:∃PR:pT->Bool,PR=(fun x=>decide (x.1=N)):=⟨_,rfl⟩;have m:=aA d;rw[<-d];clear d;unfold aP;go_enter func88,ntmps88;go_wp2;go_loopw [5,8] (fun _ i wr=>∃k:Nat,k<=l.length/\i=.int .i64 k/\Hid (∀i (hi:i<l.length),i<k->PR l[i]=false)/\Hid (Below w.heap.size w wr)) (fun _ i _=>l.length - (intOf i).toNat)
 case atStart=>exact BI
 case round=>
  obtain⟨k,y,rfl,HR,HB⟩:=hrel;by_cases hlt:k<l.length
  .have hk1:(k:Int)<(l.length:Int):=qo;obtain⟨b,off,r,rfl,_,s,⟨rfl,t⟩,hcl⟩:=aH.at bP (n.o.on bP HB.o) hlt qe;obtain⟨q,A,B,C⟩:=Hc hcl;rw[Nat.add_zero] at q;have HI:Hid (Calls prog 89 #[.agg #[.string l[k].1,.int .i64 l[k].2.1,.int .i64 l[k].2.2.1,.string l[k].2.2.2],.pointer (some ⟨p,0,none⟩)] wr (aP (.bool (PR l[k])) wr)):=by rw[m.o];exact aA (Dc l[k] p N wr (j.o wr HB.o))
   exact KG
  .exact KF
theorem UB{ok:nP}(v:Value)(l:List pT)(N:bY)(p:Nat)(w:World)(h:aH lH w ok v l)(f:jD w p 0 (.string N)):Calls prog 88 #[v,.func (.func 138) #[] #[.pointer (some ⟨p,0,none⟩)]] w (aP (.int .i64 (eV (fun x=>gU N x.1) l)) w):=by
 obtain⟨a,c,rfl,z⟩:=h.slice;have n:=aA h;have j:=aA (fun wr (o:Below w.heap.size w wr)=>(f.on o:jD wr p 0 (.string N)));clear h f;obtain⟨PR,d⟩:∃PR:pT->Bool,PR=(fun x=>gU N x.1):=⟨_,rfl⟩;have m:=aA d;rw[<-d];clear d;unfold aP;go_enter func88,ntmps88;go_wp2;go_loopw [5,8] (fun _ i wr=>∃k:Nat,k<=l.length/\i=.int .i64 k/\Hid (∀i (hi:i<l.length),i<k->PR l[i]=false)/\Hid (Below w.heap.size w wr)) (fun _ i _=>l.length - (intOf i).toNat)
 case atStart=>exact BI
 case round=>
  obtain⟨k,y,rfl,HR,HB⟩:=hrel;by_cases hlt:k<l.length
  .have hk1:(k:Int)<(l.length:Int):=qo;obtain⟨b,off,r,rfl,_,s,⟨rfl,t⟩,hcl⟩:=aH.at bP (n.o.on bP HB.o) hlt qe;obtain⟨q,A,B,C⟩:=Hc hcl;rw[Nat.add_zero] at q;have HI:Hid (Calls prog 138 #[.agg #[.string l[k].1,.int .i64 l[k].2.1,.int .i64 l[k].2.2.1,.string l[k].2.2.2],.pointer (some ⟨p,0,none⟩)] wr (aP (.bool (PR l[k])) wr)):=by rw[m.o];exact aA (Dd l[k] p N wr (j.o wr HB.o))
   exact KG
  .exact KF
theorem YF{ok:nP}(v:Value)(l:List uC)(N:bY)(p:Nat)(w:World)(h:aH mU w ok v l)(f:jD w p 0 (.string N)):Calls prog 228 #[v,.func (.func 183) #[] #[.pointer (some ⟨p,0,none⟩)]] w (aP (.int .i64 (eV (fun x=>decide (x.aD8=N)) l)) w):=by
 obtain⟨a,c,rfl,z⟩:=h.slice;have n:=aA h;have j:=aA (fun wr (o:Below w.heap.size w wr)=>(f.on o:jD wr p 0 (.string N)));clear h f;obtain⟨PR,d⟩:∃PR:uC->Bool,PR=(fun x=>decide (x.aD8=N)):=⟨_,rfl⟩;have m:=aA d;rw[<-d];clear d;unfold aP;go_enter func228,ntmps228;go_wp2;go_loopw [5,8] (fun _ i wr=>∃k:Nat,k<=l.length/\i=.int .i64 k/\Hid (∀i (hi:i<l.length),i<k->PR l[i]=false)/\Hid (Below w.heap.size w wr)) (fun _ i _=>l.length - (intOf i).toNat)
 case atStart=>exact BI
 case round=>
  obtain⟨k,y,rfl,HR,HB⟩:=hrel;by_cases hlt:k<l.length
  .have hk1:(k:Int)<(l.length:Int):=qo;obtain⟨b,off,r,rfl,_,s,⟨rfl,t⟩,hcl⟩:=aH.at cC (n.o.on cC HB.o) hlt qe;obtain⟨q,A,B⟩:=cR3 hcl;rw[Nat.add_zero] at q;have HI:Hid (Calls prog 183 #[.agg #[.int .i64 l[k].aDI,.string l[k].aD8,.string l[k].aEF],.pointer (some ⟨p,0,none⟩)] wr (aP (.bool (PR l[k])) wr)):=by rw[m.o];exact aA (Io l[k] p N wr (j.o wr HB.o))
   exact KG
  .exact KF
theorem YG{ok:nP}(v:Value)(l:List cG)(N:bY)(p:Nat)(w:World)(h:aH qC w ok v l)(m:jD w p 2 (.string N)):Calls prog 117 #[v,.func (.func 142) #[] #[.pointer (some ⟨p,0,none⟩)]] w (aP (.int .i64 (eV (fun x=>decide (x.id=N)) l)) w):=by
 obtain⟨a,c,rfl,B⟩:=h.slice;have s:=aA h;have o:=aA (fun wr (t:Below w.heap.size w wr)=>(m.on t:jD wr p 2 (.string N)));clear h m;obtain⟨PR,d⟩:∃PR:cG->Bool,PR=(fun x=>decide (x.id=N)):=⟨_,rfl⟩;have q:=aA d;rw[<-d];clear d;unfold aP;go_enter func117,ntmps117;go_wp2;go_loopw [5,8] (fun _ i wr=>∃k:Nat,k<=l.length/\i=.int .i64 k/\Hid (∀i (hi:i<l.length),i<k->PR l[i]=false)/\Hid (Below w.heap.size w wr)) (fun _ i _=>l.length - (intOf i).toNat)
 case atStart=>exact BI
 case round=>
  obtain⟨k,A,rfl,HR,HB⟩:=hrel;by_cases hlt:k<l.length
  .have hk1:(k:Int)<(l.length:Int):=qo;obtain⟨b,off,r,rfl,_,z,⟨C,D,rfl,n⟩,hcl⟩:=aH.at dV (s.o.on dV HB.o) hlt qe;obtain⟨f,j,rfl,_⟩:=n.2.2.2.1.slice;obtain⟨la,lc,rfl,_⟩:=n.2.2.2.2.slice;obtain⟨y,E,F,G,H⟩:=JW hcl;rw[Nat.add_zero] at y;have HI:Hid (Calls prog 142 #[.agg #[.string l[k].id,.string l[k].aD2,.string l[k].aDU,.slice f l[k].aDE.length j,.slice la l[k].log.length lc],.pointer (some ⟨p,0,none⟩)] wr (aP (.bool (PR l[k])) wr)):=by rw[q.o];exact aA (Ip l[k] f la j lc p N wr (o.o wr HB.o))
   exact KG
  .exact KF
theorem YH{ok:nP}(v:Value)(l:List cG)(w:World)(h:aH qC w ok v l)(p:True):Calls prog 117 #[v,.func (.func 92) #[] #[]] w (aP (.int .i64 (eV (fun x=>decide (256<x.log.length)) l)) w):=by
 obtain⟨a,c,rfl,A⟩:=h.slice;have o:=aA h;have s:=aA (fun wr (t:Below w.heap.size w wr)=>(trivial:True));clear h p;obtain⟨PR,d⟩:∃PR:cG->Bool,PR=(fun x=>decide (256<x.log.length)):=⟨_,rfl⟩;have n:=aA d;rw[<-d];clear d;unfold aP;go_enter func117,ntmps117;go_wp2;go_loopw [5,8] (fun _ i wr=>∃k:Nat,k<=l.length/\i=.int .i64 k/\Hid (∀i (hi:i<l.length),i<k->PR l[i]=false)/\Hid (Below w.heap.size w wr)) (fun _ i _=>l.length - (intOf i).toNat)
 case atStart=>exact BI
 case round=>
  obtain⟨k,z,rfl,HR,HB⟩:=hrel;by_cases hlt:k<l.length
  .have hk1:(k:Int)<(l.length:Int):=qo;obtain⟨b,off,r,rfl,_,y,⟨B,C,rfl,m⟩,hcl⟩:=aH.at dV (o.o.on dV HB.o) hlt qe;obtain⟨f,j,rfl,_⟩:=m.2.2.2.1.slice;obtain⟨la,lc,rfl,_⟩:=m.2.2.2.2.slice;obtain⟨q,D,E,F,G⟩:=JW hcl;rw[Nat.add_zero] at q;have HI:Hid (Calls prog 92 #[.agg #[.string l[k].id,.string l[k].aD2,.string l[k].aDU,.slice f l[k].aDE.length j,.slice la l[k].log.length lc],] wr (aP (.bool (PR l[k])) wr)):=by rw[n.o];exact aA (Iq l[k] f la j lc wr)
   exact KG
  .exact KF
theorem UC{ok:nP}(v:Value)(l:List Ob)(N:bY)(p:Nat)(w:World)(h:aH jZ w ok v l)(f:jD w p 0 (.string N)):Calls prog 140 #[v,.func (.func 86) #[] #[.pointer (some ⟨p,0,none⟩)]] w (aP (.int .i64 (eV (fun x=>decide (x.aDy=2)&&decide (x.arg=N)) l)) w):=by
 obtain⟨a,c,rfl,z⟩:=h.slice;have n:=aA h;have j:=aA (fun wr (o:Below w.heap.size w wr)=>(f.on o:jD wr p 0 (.string N)));clear h f;obtain⟨PR,d⟩:∃PR:Ob->Bool,PR=(fun x=>decide (x.aDy=2)&&decide (x.arg=N)):=⟨_,rfl⟩;have m:=aA d;rw[<-d];clear d;unfold aP;go_enter func140,ntmps140;go_wp2;go_loopw [5,8] (fun _ i wr=>∃k:Nat,k<=l.length/\i=.int .i64 k/\Hid (∀i (hi:i<l.length),i<k->PR l[i]=false)/\Hid (Below w.heap.size w wr)) (fun _ i _=>l.length - (intOf i).toNat)
 case atStart=>exact BI
 case round=>
  obtain⟨k,y,rfl,HR,HB⟩:=hrel;by_cases hlt:k<l.length
  .have hk1:(k:Int)<(l.length:Int):=qo;obtain⟨b,off,r,rfl,_,s,⟨rfl,t⟩,hcl⟩:=aH.at aO (n.o.on aO HB.o) hlt qe;obtain⟨q,A,B⟩:=cR3 hcl;rw[Nat.add_zero] at q;have HI:Hid (Calls prog 86 #[.agg #[.int .i64 l[k].on,.int .i64 l[k].aDy,.string l[k].arg],.pointer (some ⟨p,0,none⟩)] wr (aP (.bool (PR l[k])) wr)):=by rw[m.o];exact aA (De l[k] p N wr (j.o wr HB.o))
   exact KG
  .exact KF
theorem YI{ok:nP}(v:Value)(l:List wF)(N:bY)(T:Int)(p q:Nat)(w:World)(h:aH sZ w ok v l)(d:jD w p 0 (.string N)/\jD w q 0 (.int .i64 T)/\(∀x∈l,0<=x.aDI/\x.aDI<=T/\T<=1099511627776)):Calls prog 184 #[v,.func (.func 133) #[] #[.pointer (some ⟨p,0,none⟩),.pointer (some ⟨q,0,none⟩)]] w (aP (.int .i64 (eV (fun x=>decide (x.aDO=N)&&(x.open_&&decide (100<=T - x.aDI))) l)) w):=by
 obtain⟨a,c,rfl,A⟩:=h.slice;have o:=aA h;have f:=aA (fun wr (m:Below w.heap.size w wr)=>(⟨d.1.on m,d.2.1.on m,d.2.2⟩:jD wr p 0 (.string N)/\jD wr q 0 (.int .i64 T)/\(∀x∈l,0<=x.aDI/\x.aDI<=T/\T<=1099511627776)));clear h d;obtain⟨PR,j⟩:∃PR:wF->Bool,PR=(fun x=>decide (x.aDO=N)&&(x.open_&&decide (100<=T - x.aDI))):=⟨_,rfl⟩;have n:=aA j;rw[<-j];clear j;unfold aP;go_enter func184,ntmps184;go_wp2;go_loopw [5,8] (fun _ i wr=>∃k:Nat,k<=l.length/\i=.int .i64 k/\Hid (∀i (hi:i<l.length),i<k->PR l[i]=false)/\Hid (Below w.heap.size w wr)) (fun _ i _=>l.length - (intOf i).toNat)
 case atStart=>exact BI
 case round=>
  obtain⟨k,z,rfl,HR,HB⟩:=hrel;by_cases hlt:k<l.length
  .have hk1:(k:Int)<(l.length:Int):=qo;obtain⟨b,off,r,rfl,_,t,⟨rfl,y⟩,hcl⟩:=aH.at cV (o.o.on cV HB.o) hlt qe;obtain⟨s,B,C,D,E,F,G⟩:=CJ hcl;rw[Nat.add_zero] at s;have HI:Hid (Calls prog 133 #[.agg #[.int .i64 l[k].id,.int .i64 l[k].aDI,.string l[k].aDO,.string l[k].aDF,.string l[k].action,.string l[k].aDX,.bool l[k].open_],.pointer (some ⟨p,0,none⟩),.pointer (some ⟨q,0,none⟩)] wr (aP (.bool (PR l[k])) wr)):=by rw[n.o];exact aA (Ir l[k] p q N T wr (f.o wr HB.o).1 (f.o wr HB.o).2.1 ((f.o wr HB.o).2.2 _ (List.getElem_mem hlt)))
   exact KG
  .exact KF
theorem To{p:Prop}(h:p:=by
 go_wp2;go_returns;exact⟨by rw[<-HE.o];rfl,HB.o⟩):p:=h
theorem QCi{p:Prop}(h:p:=by
 go_wp2_with fail;refine HI.o.mono ?_;rintro e w1 ⟨rfl,hb_⟩;have HB1:=qB HB0 hb_;clear hb_ HI;go_wp2;go_returns;exact⟨by rw[<-HA.o];rfl,HB1.o⟩):p:=h
theorem QCg{p:Prop}(h:p:=by
 have HF:=aA (HL.o true rfl);clear HL;go_wp2;go_returns;exact⟨by have:=HF.o;rw[iP trivial] at this;rw[this];rfl,HB0.o.trans (HB'.o.mono HB0.o.size)⟩):p:=h
theorem QBN{p:Prop}(h:p:=by
 have hk1:¬(k:Int)<(l.length:Int):=qo;obtain rfl:k=l.length:=qo;have HF:=aA (PA HR.o);clear HR;go_wp2;go_returns;exact⟨by rw[HF.o];rfl,HB0.o.trans (HB.o.mono HB0.o.size)⟩):p:=h
theorem Tp{p:Prop}(h:p:=by
 refine HI.o.mono ?_;rintro e w1 ⟨rfl,hb_⟩;have HB1:=qB HB0 hb_;clear hb_ HI;go_wp2;go_returns;exact⟨rfl,HB1.o⟩):p:=h
theorem DA{a b:bY}:a.toList=b.toList↔a=b:=⟨fun h=>by rw[Lib.toList_data,Lib.toList_data] at h;exact ByteArray.ext (Array.ext' h),fun h=>by rw[h]⟩
def DB(m:Ma)(v:V3)(w:World)(e:Ending)(w':World):Prop:=e=.returned (.tuple #[.bool (gW m v).1,.int .i64 (gW m v).2])/\Below w.heap.size w w'
theorem YJ(m:Ma)(v:V3)(hm:tZ m)(j:cS v)(w:World):Calls prog 227 #[kQ m,dD v] w (DB m v w):=by
 have b:=aA (fun w=>CV v m.val j hm.2.2 w);have c:=aA (fun w=>CV m.val v hm.2.2 j w);obtain⟨⟨ac,i,am⟩,op,mk,a,ms⟩:=m;obtain⟨vk,vn,vs⟩:=v;have k:=aA (aC (aB w (.cells #[.int .i64 ac,.string i,.bool am,.int .i64 op,.int .i64 mk,.int .i64 a,.string ms] 270)) (aB _ (.cells #[.int .i64 vk,.int .i64 vn,.string vs] 27)));unfold tC dD at b c;unfold dD kQ;simp only at b c ⊢;clear hm j;by_cases h1:op=1
 .have d1:(op==1)=true:=bQ.2 h1;have H1:=aA h1;clear h1 b c;go_enter func227,ntmps227;go_wp2
  all_goals go_returns
  all_goals
   unfold DB gW;simp only[H1.o,if_true];refine⟨?_,aC (aB _ _) (aB _ _)⟩
   simp_all [DA]
 .have d1:(op==1)=false:=bN.2 h1;by_cases h2:op=2
  .have d2:(op==2)=true:=bQ.2 h2;have g:Hid (gW ⟨⟨ac,i,am⟩,op,mk,a,ms⟩ (vk,vn,vs)=jX (vk,vn,vs) (mk,a,ms)):=aA (by unfold gW;simp only[iN h1,iP h2]);generalize jX (vk,vn,vs) (mk,a,ms)=r at *;obtain⟨l,n⟩:=r;clear h1 h2 c;go_enter func227,ntmps227;go_wp2_with fail;refine(b.o _).mono ?_;rintro e w1 ⟨rfl,d⟩;have f:=qB k d;clear d b;go_wp2;go_returns;unfold DB;rw[g.o];exact⟨rfl,f.o⟩
  .have d2:(op==2)=false:=bN.2 h2;have g:Hid (gW ⟨⟨ac,i,am⟩,op,mk,a,ms⟩ (vk,vn,vs)=jX (mk,a,ms) (vk,vn,vs)):=aA (by unfold gW;simp only[iN h1,iN h2]);generalize jX (mk,a,ms) (vk,vn,vs)=r at *;obtain⟨l,n⟩:=r;clear h1 h2 b;go_enter func227,ntmps227;go_wp2_with fail;refine(c.o _).mono ?_;rintro e w1 ⟨rfl,d⟩;have f:=qB k d;clear d c;go_wp2;go_returns;unfold DB;rw[g.o];exact⟨rfl,f.o⟩
theorem RO{m:Ma}{l:List V3}{k out R:Nat}(a:k<l.length)(h:mG m (l.drop k) out=R):(if (gW m l[k]).1=true then 2 else mG m (l.drop (k+1)) (if (gW m l[k]).2≠0 then 1 else out))=R:=by
 rw[List.drop_eq_getElem_cons a] at h;exact h
theorem KH{ok:nP}(m:Ma)(hm:tZ m)(F:Value)(g:List Gv)(w:World)(h:aH jQ w ok F g):Calls prog 181 #[kQ m,F] w (aP (.int .i64 (lS g m:Nat)) w):=by
 have t:=aA (aB w (.cells (JZ m) 270));have G:=aA (aK w (.cells (JZ m) 270) _ rfl);have j:=aA (TX F g m.aDZ _ (h.on bZ t.o));have B:=aA (fun v T w=>YJ m v hm T w);obtain⟨a,c,rfl,ad⟩:=h.slice;unfold aP lS kQ;unfold tE oJ at j;unfold DB kQ dD at B;clear h hm;obtain⟨bag,J,L⟩:∃b e,pX g m.aDZ=(b,e):=⟨_,_,rfl⟩;rw[L] at j ⊢;clear L;simp only at j ⊢;by_cases he:J=0
 case neg=>
  rw[iP he];have d:(J != 0)=true:=bne_iff_ne.2 he;clear he B;go_enter func181,ntmps181;go_wp2_with fail;refine j.o.mono ?_;rintro e w1 ⟨v,rfl,q,f⟩;have l:=qB t f;clear q f j;go_wp2;go_returns;exact⟨rfl,l.o⟩
 subst he;rw[iN (fun h=>h rfl)];obtain⟨res,E⟩:=xE (mG m bag 0);rw[<-E];have I:Hid (mG m (bag.drop 0) 0=res):=aA (by rw[List.drop_zero];exact E.symm);clear E;go_enter func181,ntmps181;go_wp2_with fail;refine j.o.mono ?_;rintro e w1 ⟨v,rfl,q,f⟩;obtain⟨l,P,R⟩:=aY (aC t.o f) (aE G.o f) q;obtain⟨ba,bc,rfl,aa⟩:=q.slice;clear q f j G t;go_wp2;go_loopw [7,23] (fun o i wr=>∃k out:Nat,k<=bag.length/\i=.int .i64 k/\o=.int .i64 out/\Hid (mG m (bag.drop k) out=res)/\Hid (Below w1.heap.size w1 wr)) (fun _ i _=>bag.length - (intOf i).toNat)
 case atStart=>exact⟨0,0,Nat.zero_le _,rfl,rfl,I,aA (Below.refl _ _)⟩
 case round=>
  clear I;obtain⟨k,out,hk,rfl,rfl,y,s⟩:=hrel;by_cases N:k<bag.length
  .have S:(k:Int)<(bag.length:Int):=qo;obtain⟨b,off,r,rfl,_,ab,⟨rfl,M⟩,K⟩:=aH.at bG (R.o.on bG s.o) N qe;obtain⟨O,W,X⟩:=cR3 K;rw[Nat.add_zero] at O;have H:=qK P s.o;obtain⟨⟨Y,Z,y2,y3,y4,y5,y6⟩,_⟩:=bI H.o;have U:=aD H.o;have p:=aA (RO N y.o);have A:=aA (B.o bag[k] M);clear K y M;generalize bag[k]=x at *;generalize gW m x=r at *;obtain⟨V,z⟩:=r;simp only at A p;go_wp2_with fail;refine(A.o _).mono ?_;rintro e w2 ⟨rfl,f⟩;have C:=aA (aC (aC s.o (aB _ _)) f);clear f A O W X Y Z y2 y3 y4 y5 y6 U
   cases V
   .have n:Hid (mG m (bag.drop (k+1)) (if z≠0 then 1 else out)=res):=p.o;by_cases he:z=0
    .have d2:(z != 0)=false:=by rw[he];rfl
     have D:Hid (mG m (bag.drop (k+1)) out=res):=aA (by have:=n.o;rwa [iN (fun h=>h he)] at this);clear he p n;go_wp2;go_roundw
     case rel=>exact⟨k+1,out,qo,by go_num,rfl,D,C⟩
     case measure=>simp[intOf];omega
    .have d2:(z != 0)=true:=bne_iff_ne.2 he;have D:Hid (mG m (bag.drop (k+1)) 1=res):=aA (by have:=n.o;rwa [iP he] at this);clear he p n;go_wp2;go_roundw
     case rel=>exact⟨k+1,1,qo,by go_num,rfl,D,C⟩
     case measure=>simp[intOf];omega
   .have n:Hid (2=res):=p.o;clear p;go_wp2;go_returns;exact⟨by rw[<-n.o];rfl,l.o.trans (C.o.mono l.o.size)⟩
  .have S:¬(k:Int)<(bag.length:Int):=qo;obtain rfl:k=bag.length:=qo;have Q:Hid (out=res):=aA (by have:=y.o;rwa [List.drop_length] at this);clear y;go_wp2;go_returns;exact⟨by rw[<-Q.o];rfl,l.o.trans (s.o.mono l.o.size)⟩
theorem Zf(p q:Nat)(a:Array TypeId)(t:TypeId)(w:World):(Builtin.min_ a t #[.int .i64 (p:Int),.int .i64 (q:Int)]).run prog w=.ok (.int .i64 ((min p q:Nat):Int)) w:=by
 simp[Builtin.min_,Builtin.min2]
 rcases Nat.lt_or_ge q p with h|h<;>simp[h]<;>omega
theorem aC6(p q:Nat)(a:Array TypeId)(t:TypeId)(w:World):(Builtin.max_ a t #[.int .i64 (p:Int),.int .i64 (q:Int)]).run prog w=.ok (.int .i64 ((max p q:Nat):Int)) w:=by
 simp[Builtin.max_,Builtin.max2]
 rcases Nat.lt_or_ge p q with h|h<;>simp[h]<;>omega
theorem DC{α β:Type}{f:β->α->β}{l:List α}{k:Nat}{out R:β}(a:k<l.length)(h:(l.drop k).foldl f out=R):(l.drop (k+1)).foldl f (f out l[k])=R:=by
 rw[List.drop_eq_getElem_cons a] at h;exact h
theorem IX{α β:Type}{f:β->α->β}{l:List α}{out R:β}(h:(l.drop l.length).foldl f out=R):out=R:=by
 rw[List.drop_length] at h;exact h
theorem Ph{ok ok':nP}(A:Value)(l:List Ma)(z:Value)(g:List Gv)(w:World)(j:aH rR w ok' A l)(h:aH jQ w ok z g):Calls prog 220 #[A,z] w (aP (.int .i64 (zG g l:Nat)) w):=by
 obtain⟨a,c,rfl,Q⟩:=h.slice;obtain⟨la,lc,rfl,R⟩:=j.slice;have E:=aA j;have D:=aA h;clear h j;unfold aP zG;obtain⟨res,p⟩:=xE (l.foldl (fun out m=>min out (lS g m)) 2);rw[<-p];have q:Hid ((l.drop 0).foldl (fun out m=>min out (lS g m)) 2=res):=aA (by rw[List.drop_zero];exact p.symm);clear p;go_enter func220,ntmps220;go_wp2;go_loopw [5,10] (fun o i wr=>∃k out:Nat,k<=l.length/\i=.int .i64 k/\o=.int .i64 out/\Hid ((l.drop k).foldl (fun out m=>min out (lS g m)) out=res)/\Hid (Below w.heap.size w wr)) (fun _ i _=>l.length - (intOf i).toNat)
 case atStart=>exact⟨0,2,Nat.zero_le _,rfl,rfl,q,aA (Below.refl _ _)⟩
 case round=>
  clear q;obtain⟨k,out,P,rfl,rfl,d,HB⟩:=hrel;by_cases y:k<l.length
  .have G:(k:Int)<(l.length:Int):=qo;obtain⟨b,off,r,rfl,_,O,⟨rfl,v⟩,t⟩:=aH.at eR (E.o.on eR HB.o) y qe;obtain⟨B,I,J,K,L,M,N⟩:=CJ t;rw[Nat.add_zero] at B;have F:=aA (DC y d.o);have f:=aA (KH l[k] v _ g (wr.alloc (.cells #[.int .i64 l[k].aDZ.cat,.string l[k].aDZ.name,.bool l[k].aDZ.aD6,.int .i64 l[k].op,.int .i64 l[k].val.1,.int .i64 l[k].val.2.1,.string l[k].val.2.2] 270)) (D.o.on bZ (HB.o.alloc HB.o.size _)));unfold aP kQ at f;clear t d v;generalize l[k]=x at *;generalize lS g x=n at *;have H:=Zf out n;go_wp2_with fail;refine f.o.mono ?_;rintro e w2 ⟨rfl,s⟩;have C:=aA (aC (aC HB.o (aB _ _)) s);clear s f B I J K L M N;go_wp2;clear H;go_roundw
   case rel=>exact⟨k+1,min out n,qo,by go_num,rfl,F,C⟩
   case measure=>simp[intOf];omega
  .have G:¬(k:Int)<(l.length:Int):=qo;obtain rfl:k=l.length:=qo;have HE:=aA (IX d.o);clear d;exact To
theorem Aj{ok ok':nP}(vt:Value)(t:Ta)(O:Value)(g:List Gv)(w:World)(H:oC w ok' vt t)(h:aH jQ w ok O g):Calls prog 177 #[vt,O] w (aP (.int .i64 (rP g t:Nat)) w):=by
 obtain⟨a,c,rfl,aa⟩:=h.slice;obtain⟨ta,tc,rfl,ab⟩:=H.slice;have S:=aA H;have R:=aA h;clear h H;unfold aP rP;obtain⟨F,B⟩:∃F:Nat->List (List Ma)->Nat,F=(fun out l=>min out (l.foldl (fun d x=>max d (zG g x)) 0)):=⟨_,rfl⟩;have Q:=aA B;rw[<-B];clear B;obtain⟨res,D⟩:=xE (t.foldl F 2);rw[<-D];have K:Hid ((t.drop 0).foldl F 2=res):=aA (by rw[List.drop_zero];exact D.symm);clear D;go_enter func177,ntmps177;go_wp2;go_loopw [5,13] (fun o i wr=>∃k out:Nat,k<=t.length/\i=.int .i64 k/\o=.int .i64 out/\Hid ((t.drop k).foldl F out=res)/\Hid (Below w.heap.size w wr)) (fun _ i _=>t.length - (intOf i).toNat)
 case atStart=>exact⟨0,2,Nat.zero_le _,rfl,rfl,K,aA (Below.refl _ _)⟩
 case round=>
  clear K;obtain⟨y,rfl⟩:∃y:World,y=wr:=⟨_,rfl⟩;obtain⟨k,out,hk,rfl,rfl,s,HB⟩:=hrel;by_cases N:k<t.length
  .have V:(k:Int)<(t.length:Int):=qo;obtain⟨b,off,r,rfl,_,Y,⟨vx,rfl,E⟩,f⟩:=aH.at aS (S.o.on aS HB.o) N qe;obtain⟨xa,xc,rfl,_⟩:=E.slice;have m:=f 0 _ rfl;rw[Nat.add_zero,Nat.mul_one] at m;have A:=aA (DC N s.o);have T:=aA E;have I:=aA (show F out t[k]=min out (t[k].foldl (fun d x=>max d (zG g x)) 0) by rw[Q.o]);clear f s E;generalize t[k]=l at *;obtain⟨d,C⟩:=xE (l.foldl (fun d x=>max d (zG g x)) 0);rw[<-C] at I;have J:Hid ((l.drop 0).foldl (fun d x=>max d (zG g x)) 0=d):=aA (by rw[List.drop_zero];exact C.symm);clear C;go_wp2;clear m;go_loopw [8,10,19] (fun o _ i wr=>∃j b:Nat,j<=l.length/\i=.int .i64 j/\o=.int .i64 b/\Hid ((l.drop j).foldl (fun d x=>max d (zG g x)) b=d)/\Hid (Below y.heap.size y wr)) (fun _ _ i _=>l.length - (intOf i).toNat)
   case atStart=>exact⟨0,0,Nat.zero_le _,rfl,rfl,J,aA (Below.refl _ _)⟩
   case round=>
    clear J;obtain⟨j,v,hj,rfl,rfl,q,p⟩:=hrel;by_cases M:j<l.length
    .have U:(j:Int)<(l.length:Int):=qo;obtain⟨b2,ad,r2,rfl,_,Z,⟨vy,rfl,G⟩,f⟩:=aH.at dO (T.o.on dO p.o) M qe;obtain⟨ya,yc,rfl,_⟩:=G.slice;have m:=f 0 _ rfl;rw[Nat.add_zero,Nat.mul_one] at m;have A:=aA (DC M q.o);have z:=aA (Ph _ _ _ g wr G (R.o.on bZ (aC HB.o p.o)));unfold aP at z;clear f q G;generalize l[j]=x at *;generalize zG g x=n at *;have W:=aC6 v n;go_wp2_with fail;refine z.o.mono ?_;rintro e w2 ⟨rfl,L⟩;have P:=qB p L;clear L z m;go_wp2;clear W;go_roundw
     case rel=>exact⟨j+1,max v n,qo,by go_num,rfl,A,P⟩
     case measure=>simp[intOf];omega
    .have U:¬(j:Int)<(l.length:Int):=qo;obtain rfl:j=l.length:=qo;have HE:=aA (IX q.o);clear q;have X:=Zf out v;go_wp2;clear X;go_roundw
     case rel=>exact⟨k+1,min out v,qo,by go_num,rfl,aA (by have:=A.o;rw[I.o,<-HE.o] at this;exact this),aA (aC HB.o p.o)⟩
     case measure=>simp[intOf];omega
  .have V:¬(k:Int)<(t.length:Int):=qo;obtain rfl:k=t.length:=qo;have HE:=aA (IX s.o);clear s;exact To
end Go.Proofs.YtdfinmcogbkffaaGreatDoor
