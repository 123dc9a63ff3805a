/- Lemmas. -/
import Derived.Test.YtgoanbpcdhmfkaaGreatDoorMae
namespace Go.Proofs.YtgoanbpcdhmfkaaGreatDoor
open Go.RowKit
set_option linter.unusedVariables false
set_option linter.unusedSimpArgs false
set_option maxHeartbeats 16000000
open _root_.Go.Proofs.Tryz
set_option maxRecDepth 20000
theorem Bv:dV prog 50 54 3 40:=fP (z:= .agg #[.int .i64 0,.string ByteArray.empty,.string ByteArray.empty]) underlying50 (by kernel_rfl) rfl qe
theorem wX:dV prog 49 196 4 48:=fP (z:= .agg #[.string ByteArray.empty,.int .i64 0,.int .i64 0,.string ByteArray.empty]) underlying49 (by kernel_rfl) rfl qe
theorem zP:dV prog 28 52 5 96:=fP (z:= .agg #[.string ByteArray.empty,.string ByteArray.empty,.string ByteArray.empty,.slice none 0 0,.slice none 0 0]) underlying28 (by kernel_rfl) rfl qe
theorem Rn:dV prog 29 179 7 88:=fP (z:= .agg #[.int .i64 0,.int .i64 0,.string ByteArray.empty,.string ByteArray.empty,.string ByteArray.empty,.string ByteArray.empty,.bool false]) underlying29 (by kernel_rfl) rfl qe
theorem Ro:dV prog 30 182 3 40:=fP (z:= .agg #[.int .i64 0,.string ByteArray.empty,.string ByteArray.empty]) underlying30 (by kernel_rfl) rfl qe
theorem Rp:dV prog 31 170 2 32:=fP (z:= .agg #[.string ByteArray.empty,.string ByteArray.empty]) underlying31 (by kernel_rfl) rfl qe
theorem aCf:dV prog 36 191 3 32:=fP (z:= .agg #[.int .i64 0,.int .i64 0,.string ByteArray.empty]) underlying36 (by kernel_rfl) rfl qe
theorem aCg:dV prog 317 288 7 72:=fP (z:= .agg #[.int .i64 0,.string ByteArray.empty,.bool false,.int .i64 0,.int .i64 0,.int .i64 0,.string ByteArray.empty]) underlying317 (by kernel_rfl) rfl qe
theorem aCh:dV prog 274 301 7 72:=fP (z:= .agg #[.int .i64 0,.int .i64 0,.int .i64 0,.string ByteArray.empty,.int .i64 0,.string ByteArray.empty,.bool false]) underlying274 (by kernel_rfl) rfl qe
theorem aCi:dV prog 34 276 5 96:=fP (z:= .agg #[.string ByteArray.empty,.bool false,.slice none 0 0,.slice none 0 0,.slice none 0 0]) underlying34 (by kernel_rfl) rfl qe
theorem aCj:dV prog 35 38 7 128:=fP (z:= .agg #[.string ByteArray.empty,.bool false,.int .i64 0,.slice none 0 0,.slice none 0 0,.slice none 0 0,.slice none 0 0]) underlying35 (by kernel_rfl) rfl qe
theorem CQ{ok:nP}(v:Value)(l:List tU)(w:World)(h:aH mS w ok v l):Calls prog 103 #[v] w (bV mS 3 54 ok l w):=by
 obtain⟨a,c,rfl,n⟩:=h.slice;unfold bV
 rcases a with _|k
 .have B:=kD bW qe h;subst B;have heq:=Lib.run_eql_slice_nil (P:=prog) w 50 54 none 0 c 0 0 underlying50;clear h;go_enter func103,ntmps103;exact BF
 .obtain⟨D,E,cs,b,h1,h2,_⟩:=h;injection b with b _ z;subst b z;have heq:=Lib.run_eql_slice_nil (P:=prog) w 50 54 (some k) l.length c 0 0 underlying50;have d:Below w.heap.size w (w.alloc (.cells #[] 54)):=(Below.refl _ _).alloc (lR _) _;have g:=aA (World.ownsRow_made (e:=54) w #[] 0 (lR _) (by simp[maxLen]) rfl:(w.alloc (.cells #[] 54)).ownsRow w.heap.size 54 3 (.slice (some ⟨w.heap.size,0,none⟩) 0 0) 0 []);have s:=aA (h2.len (fun _ _ f=>bW.len f));have t:=aA (h2.aDh (fun _ _ f=>bW.one f));obtain⟨y,r,q,j⟩:=dD (h1.lt.below d) h2 d n;clear h1 h2 d n;go_enter func103,ntmps103;go_wp2_with (at_builtin;refine fQ Bv rfl (.tmp 5) (.tmp 6) rfl w.heap.size (.slice (some ⟨w.heap.size,0,none⟩) 0 0) 0 [] rfl g.o (some k) l.length c cs rfl s.o (y.o.more qs) t.o (by have:=j.o;unfold maxLen;omega) (qA j.o) qs ?_;intro C c1 w1 p m A;have i:=aA (dU g.o q.o m (lR _) qs);have x:=aA p;clear p m A)
  go_returns;have o:=x.o;simp only[Nat.zero_add,List.nil_append] at o ⊢;exact⟨_,rfl,lI bW r.o i.o o,i.o⟩
theorem TD{ok:nP}(v:Value)(l:List pQ)(w:World)(h:aH lE w ok v l):Calls prog 169 #[v] w (bV lE 4 196 ok l w):=by
 obtain⟨a,c,rfl,n⟩:=h.slice;unfold bV
 rcases a with _|k
 .have B:=kD bP qe h;subst B;have heq:=Lib.run_eql_slice_nil (P:=prog) w 49 196 none 0 c 0 0 underlying49;clear h;go_enter func169,ntmps169;exact BF
 .obtain⟨D,E,cs,b,h1,h2,_⟩:=h;injection b with b _ z;subst b z;have heq:=Lib.run_eql_slice_nil (P:=prog) w 49 196 (some k) l.length c 0 0 underlying49;have d:Below w.heap.size w (w.alloc (.cells #[] 196)):=(Below.refl _ _).alloc (lR _) _;have g:=aA (World.ownsRow_made (e:=196) w #[] 0 (lR _) (by simp[maxLen]) rfl:(w.alloc (.cells #[] 196)).ownsRow w.heap.size 196 4 (.slice (some ⟨w.heap.size,0,none⟩) 0 0) 0 []);have s:=aA (h2.len (fun _ _ f=>bP.len f));have t:=aA (h2.aDh (fun _ _ f=>bP.one f));obtain⟨y,r,q,j⟩:=dD (h1.lt.below d) h2 d n;clear h1 h2 d n;go_enter func169,ntmps169;go_wp2_with (at_builtin;refine fQ wX rfl (.tmp 5) (.tmp 6) rfl w.heap.size (.slice (some ⟨w.heap.size,0,none⟩) 0 0) 0 [] rfl g.o (some k) l.length c cs rfl s.o (y.o.more qs) t.o (by have:=j.o;unfold maxLen;omega) (qA j.o) qs ?_;intro C c1 w1 p m A;have i:=aA (dU g.o q.o m (lR _) qs);have x:=aA p;clear p m A)
  go_returns;have o:=x.o;simp only[Nat.zero_add,List.nil_append] at o ⊢;exact⟨_,rfl,lI bP r.o i.o o,i.o⟩
theorem CR{ok:nP}(v:Value)(l:List cF)(w:World)(h:aH pW w ok v l):Calls prog 102 #[v] w (bV pW 5 52 ok l w):=by
 obtain⟨a,c,rfl,n⟩:=h.slice;unfold bV
 rcases a with _|k
 .have B:=kD dK qe h;subst B;have heq:=Lib.run_eql_slice_nil (P:=prog) w 28 52 none 0 c 0 0 underlying28;clear h;go_enter func102,ntmps102;exact BF
 .obtain⟨D,E,cs,b,h1,h2,_⟩:=h;injection b with b _ z;subst b z;have heq:=Lib.run_eql_slice_nil (P:=prog) w 28 52 (some k) l.length c 0 0 underlying28;have d:Below w.heap.size w (w.alloc (.cells #[] 52)):=(Below.refl _ _).alloc (lR _) _;have g:=aA (World.ownsRow_made (e:=52) w #[] 0 (lR _) (by simp[maxLen]) rfl:(w.alloc (.cells #[] 52)).ownsRow w.heap.size 52 5 (.slice (some ⟨w.heap.size,0,none⟩) 0 0) 0 []);have s:=aA (h2.len (fun _ _ f=>dK.len f));have t:=aA (h2.aDh (fun _ _ f=>dK.one f));obtain⟨y,r,q,j⟩:=dD (h1.lt.below d) h2 d n;clear h1 h2 d n;go_enter func102,ntmps102;go_wp2_with (at_builtin;refine fQ zP rfl (.tmp 5) (.tmp 6) rfl w.heap.size (.slice (some ⟨w.heap.size,0,none⟩) 0 0) 0 [] rfl g.o (some k) l.length c cs rfl s.o (y.o.more qs) t.o (by have:=j.o;unfold maxLen;omega) (qA j.o) qs ?_;intro C c1 w1 p m A;have i:=aA (dU g.o q.o m (lR _) qs);have x:=aA p;clear p m A)
  go_returns;have o:=x.o;simp only[Nat.zero_add,List.nil_append] at o ⊢;exact⟨_,rfl,lI dK r.o i.o o,i.o⟩
theorem CT{ok:nP}(v:Value)(l:List vU)(w:World)(h:aH sR w ok v l):Calls prog 100 #[v] w (bV sR 7 179 ok l w):=by
 obtain⟨a,c,rfl,n⟩:=h.slice;unfold bV
 rcases a with _|k
 .have B:=kD cT qe h;subst B;have heq:=Lib.run_eql_slice_nil (P:=prog) w 29 179 none 0 c 0 0 underlying29;clear h;go_enter func100,ntmps100;exact BF
 .obtain⟨D,E,cs,b,h1,h2,_⟩:=h;injection b with b _ z;subst b z;have heq:=Lib.run_eql_slice_nil (P:=prog) w 29 179 (some k) l.length c 0 0 underlying29;have d:Below w.heap.size w (w.alloc (.cells #[] 179)):=(Below.refl _ _).alloc (lR _) _;have g:=aA (World.ownsRow_made (e:=179) w #[] 0 (lR _) (by simp[maxLen]) rfl:(w.alloc (.cells #[] 179)).ownsRow w.heap.size 179 7 (.slice (some ⟨w.heap.size,0,none⟩) 0 0) 0 []);have s:=aA (h2.len (fun _ _ f=>cT.len f));have t:=aA (h2.aDh (fun _ _ f=>cT.one f));obtain⟨y,r,q,j⟩:=dD (h1.lt.below d) h2 d n;clear h1 h2 d n;go_enter func100,ntmps100;go_wp2_with (at_builtin;refine fQ Rn rfl (.tmp 5) (.tmp 6) rfl w.heap.size (.slice (some ⟨w.heap.size,0,none⟩) 0 0) 0 [] rfl g.o (some k) l.length c cs rfl s.o (y.o.more qs) t.o (by have:=j.o;unfold maxLen;omega) (qA j.o) qs ?_;intro C c1 w1 p m A;have i:=aA (dU g.o q.o m (lR _) qs);have x:=aA p;clear p m A)
  go_returns;have o:=x.o;simp only[Nat.zero_add,List.nil_append] at o ⊢;exact⟨_,rfl,lI cT r.o i.o o,i.o⟩
theorem CU{ok:nP}(v:Value)(l:List xP)(w:World)(h:aH vV w ok v l):Calls prog 101 #[v] w (bV vV 3 182 ok l w):=by
 obtain⟨a,c,rfl,n⟩:=h.slice;unfold bV
 rcases a with _|k
 .have B:=kD dZ qe h;subst B;have heq:=Lib.run_eql_slice_nil (P:=prog) w 30 182 none 0 c 0 0 underlying30;clear h;go_enter func101,ntmps101;exact BF
 .obtain⟨D,E,cs,b,h1,h2,_⟩:=h;injection b with b _ z;subst b z;have heq:=Lib.run_eql_slice_nil (P:=prog) w 30 182 (some k) l.length c 0 0 underlying30;have d:Below w.heap.size w (w.alloc (.cells #[] 182)):=(Below.refl _ _).alloc (lR _) _;have g:=aA (World.ownsRow_made (e:=182) w #[] 0 (lR _) (by simp[maxLen]) rfl:(w.alloc (.cells #[] 182)).ownsRow w.heap.size 182 3 (.slice (some ⟨w.heap.size,0,none⟩) 0 0) 0 []);have s:=aA (h2.len (fun _ _ f=>dZ.len f));have t:=aA (h2.aDh (fun _ _ f=>dZ.one f));obtain⟨y,r,q,j⟩:=dD (h1.lt.below d) h2 d n;clear h1 h2 d n;go_enter func101,ntmps101;go_wp2_with (at_builtin;refine fQ Ro rfl (.tmp 5) (.tmp 6) rfl w.heap.size (.slice (some ⟨w.heap.size,0,none⟩) 0 0) 0 [] rfl g.o (some k) l.length c cs rfl s.o (y.o.more qs) t.o (by have:=j.o;unfold maxLen;omega) (qA j.o) qs ?_;intro C c1 w1 p m A;have i:=aA (dU g.o q.o m (lR _) qs);have x:=aA p;clear p m A)
  go_returns;have o:=x.o;simp only[Nat.zero_add,List.nil_append] at o ⊢;exact⟨_,rfl,lI dZ r.o i.o o,i.o⟩
theorem TE{ok:nP}(v:Value)(l:List wV)(w:World)(h:aH qT w ok v l):Calls prog 162 #[v] w (bV qT 2 170 ok l w):=by
 obtain⟨a,c,rfl,n⟩:=h.slice;unfold bV
 rcases a with _|k
 .have B:=kD dA qe h;subst B;have heq:=Lib.run_eql_slice_nil (P:=prog) w 31 170 none 0 c 0 0 underlying31;clear h;go_enter func162,ntmps162;exact BF
 .obtain⟨D,E,cs,b,h1,h2,_⟩:=h;injection b with b _ z;subst b z;have heq:=Lib.run_eql_slice_nil (P:=prog) w 31 170 (some k) l.length c 0 0 underlying31;have d:Below w.heap.size w (w.alloc (.cells #[] 170)):=(Below.refl _ _).alloc (lR _) _;have g:=aA (World.ownsRow_made (e:=170) w #[] 0 (lR _) (by simp[maxLen]) rfl:(w.alloc (.cells #[] 170)).ownsRow w.heap.size 170 2 (.slice (some ⟨w.heap.size,0,none⟩) 0 0) 0 []);have s:=aA (h2.len (fun _ _ f=>dA.len f));have t:=aA (h2.aDh (fun _ _ f=>dA.one f));obtain⟨y,r,q,j⟩:=dD (h1.lt.below d) h2 d n;clear h1 h2 d n;go_enter func162,ntmps162;go_wp2_with (at_builtin;refine fQ Rp rfl (.tmp 5) (.tmp 6) rfl w.heap.size (.slice (some ⟨w.heap.size,0,none⟩) 0 0) 0 [] rfl g.o (some k) l.length c cs rfl s.o (y.o.more qs) t.o (by have:=j.o;unfold maxLen;omega) (qA j.o) qs ?_;intro C c1 w1 p m A;have i:=aA (dU g.o q.o m (lR _) qs);have x:=aA p;clear p m A)
  go_returns;have o:=x.o;simp only[Nat.zero_add,List.nil_append] at o ⊢;exact⟨_,rfl,lI dA r.o i.o o,i.o⟩
theorem FP{ok:nP}(v:Value)(l:List Ob)(w:World)(h:aH jU w ok v l):Calls prog 207 #[v] w (bV jU 3 191 ok l w):=by
 obtain⟨a,c,rfl,n⟩:=h.slice;unfold bV
 rcases a with _|k
 .have B:=kD aO qe h;subst B;have heq:=Lib.run_eql_slice_nil (P:=prog) w 36 191 none 0 c 0 0 underlying36;clear h;go_enter func207,ntmps207;exact BF
 .obtain⟨D,E,cs,b,h1,h2,_⟩:=h;injection b with b _ z;subst b z;have heq:=Lib.run_eql_slice_nil (P:=prog) w 36 191 (some k) l.length c 0 0 underlying36;have d:Below w.heap.size w (w.alloc (.cells #[] 191)):=(Below.refl _ _).alloc (lR _) _;have g:=aA (World.ownsRow_made (e:=191) w #[] 0 (lR _) (by simp[maxLen]) rfl:(w.alloc (.cells #[] 191)).ownsRow w.heap.size 191 3 (.slice (some ⟨w.heap.size,0,none⟩) 0 0) 0 []);have s:=aA (h2.len (fun _ _ f=>aO.len f));have t:=aA (h2.aDh (fun _ _ f=>aO.one f));obtain⟨y,r,q,j⟩:=dD (h1.lt.below d) h2 d n;clear h1 h2 d n;go_enter func207,ntmps207;go_wp2_with (at_builtin;refine fQ aCf rfl (.tmp 5) (.tmp 6) rfl w.heap.size (.slice (some ⟨w.heap.size,0,none⟩) 0 0) 0 [] rfl g.o (some k) l.length c cs rfl s.o (y.o.more qs) t.o (by have:=j.o;unfold maxLen;omega) (qA j.o) qs ?_;intro C c1 w1 p m A;have i:=aA (dU g.o q.o m (lR _) qs);have x:=aA p;clear p m A)
  go_returns;have o:=x.o;simp only[Nat.zero_add,List.nil_append] at o ⊢;exact⟨_,rfl,lI aO r.o i.o o,i.o⟩
theorem XC{ok:nP}(v:Value)(l:List Ma)(w:World)(h:aH rM w ok v l):Calls prog 240 #[v] w (bV rM 7 288 ok l w):=by
 obtain⟨a,c,rfl,n⟩:=h.slice;unfold bV
 rcases a with _|k
 .have B:=kD eP qe h;subst B;have heq:=Lib.run_eql_slice_nil (P:=prog) w 317 288 none 0 c 0 0 underlying317;clear h;go_enter func240,ntmps240;exact BF
 .obtain⟨D,E,cs,b,h1,h2,_⟩:=h;injection b with b _ z;subst b z;have heq:=Lib.run_eql_slice_nil (P:=prog) w 317 288 (some k) l.length c 0 0 underlying317;have d:Below w.heap.size w (w.alloc (.cells #[] 288)):=(Below.refl _ _).alloc (lR _) _;have g:=aA (World.ownsRow_made (e:=288) w #[] 0 (lR _) (by simp[maxLen]) rfl:(w.alloc (.cells #[] 288)).ownsRow w.heap.size 288 7 (.slice (some ⟨w.heap.size,0,none⟩) 0 0) 0 []);have s:=aA (h2.len (fun _ _ f=>eP.len f));have t:=aA (h2.aDh (fun _ _ f=>eP.one f));obtain⟨y,r,q,j⟩:=dD (h1.lt.below d) h2 d n;clear h1 h2 d n;go_enter func240,ntmps240;go_wp2_with (at_builtin;refine fQ aCg rfl (.tmp 5) (.tmp 6) rfl w.heap.size (.slice (some ⟨w.heap.size,0,none⟩) 0 0) 0 [] rfl g.o (some k) l.length c cs rfl s.o (y.o.more qs) t.o (by have:=j.o;unfold maxLen;omega) (qA j.o) qs ?_;intro C c1 w1 p m A;have i:=aA (dU g.o q.o m (lR _) qs);have x:=aA p;clear p m A)
  go_returns;have o:=x.o;simp only[Nat.zero_add,List.nil_append] at o ⊢;exact⟨_,rfl,lI eP r.o i.o o,i.o⟩
theorem XD{ok:nP}(v:Value)(l:List No)(w:World)(h:aH JG w ok v l):Calls prog 210 #[v] w (bV JG 7 301 ok l w):=by
 obtain⟨a,c,rfl,n⟩:=h.slice;unfold bV
 rcases a with _|k
 .have B:=kD dQ qe h;subst B;have heq:=Lib.run_eql_slice_nil (P:=prog) w 274 301 none 0 c 0 0 underlying274;clear h;go_enter func210,ntmps210;exact BF
 .obtain⟨D,E,cs,b,h1,h2,_⟩:=h;injection b with b _ z;subst b z;have heq:=Lib.run_eql_slice_nil (P:=prog) w 274 301 (some k) l.length c 0 0 underlying274;have d:Below w.heap.size w (w.alloc (.cells #[] 301)):=(Below.refl _ _).alloc (lR _) _;have g:=aA (World.ownsRow_made (e:=301) w #[] 0 (lR _) (by simp[maxLen]) rfl:(w.alloc (.cells #[] 301)).ownsRow w.heap.size 301 7 (.slice (some ⟨w.heap.size,0,none⟩) 0 0) 0 []);have s:=aA (h2.len (fun _ _ f=>dQ.len f));have t:=aA (h2.aDh (fun _ _ f=>dQ.one f));obtain⟨y,r,q,j⟩:=dD (h1.lt.below d) h2 d n;clear h1 h2 d n;go_enter func210,ntmps210;go_wp2_with (at_builtin;refine fQ aCh rfl (.tmp 5) (.tmp 6) rfl w.heap.size (.slice (some ⟨w.heap.size,0,none⟩) 0 0) 0 [] rfl g.o (some k) l.length c cs rfl s.o (y.o.more qs) t.o (by have:=j.o;unfold maxLen;omega) (qA j.o) qs ?_;intro C c1 w1 p m A;have i:=aA (dU g.o q.o m (lR _) qs);have x:=aA p;clear p m A)
  go_returns;have o:=x.o;simp only[Nat.zero_add,List.nil_append] at o ⊢;exact⟨_,rfl,lI dQ r.o i.o o,i.o⟩
theorem XE{ok:nP}(v:Value)(l:List Ru)(w:World)(h:aH yG w ok v l):Calls prog 208 #[v] w (bV yG 5 276 ok l w):=by
 obtain⟨a,c,rfl,n⟩:=h.slice;unfold bV
 rcases a with _|k
 .have B:=kD bM qe h;subst B;have heq:=Lib.run_eql_slice_nil (P:=prog) w 34 276 none 0 c 0 0 underlying34;clear h;go_enter func208,ntmps208;exact BF
 .obtain⟨D,E,cs,b,h1,h2,_⟩:=h;injection b with b _ z;subst b z;have heq:=Lib.run_eql_slice_nil (P:=prog) w 34 276 (some k) l.length c 0 0 underlying34;have d:Below w.heap.size w (w.alloc (.cells #[] 276)):=(Below.refl _ _).alloc (lR _) _;have g:=aA (World.ownsRow_made (e:=276) w #[] 0 (lR _) (by simp[maxLen]) rfl:(w.alloc (.cells #[] 276)).ownsRow w.heap.size 276 5 (.slice (some ⟨w.heap.size,0,none⟩) 0 0) 0 []);have s:=aA (h2.len (fun _ _ f=>bM.len f));have t:=aA (h2.aDh (fun _ _ f=>bM.one f));obtain⟨y,r,q,j⟩:=dD (h1.lt.below d) h2 d n;clear h1 h2 d n;go_enter func208,ntmps208;go_wp2_with (at_builtin;refine fQ aCi rfl (.tmp 5) (.tmp 6) rfl w.heap.size (.slice (some ⟨w.heap.size,0,none⟩) 0 0) 0 [] rfl g.o (some k) l.length c cs rfl s.o (y.o.more qs) t.o (by have:=j.o;unfold maxLen;omega) (qA j.o) qs ?_;intro C c1 w1 p m A;have i:=aA (dU g.o q.o m (lR _) qs);have x:=aA p;clear p m A)
  go_returns;have o:=x.o;simp only[Nat.zero_add,List.nil_append] at o ⊢;exact⟨_,rfl,lI bM r.o i.o o,i.o⟩
theorem XF{n:Nat}{ok:nP}(v:Value)(l:List Po)(w:World)(h:aH (pZ n) w ok v l):Calls prog 209 #[v] w (bV (pZ n) 7 38 ok l w):=by
 obtain⟨a,c,rfl,o⟩:=h.slice;unfold bV
 rcases a with _|k
 .have C:=kD (bB n) qe h;subst C;have heq:=Lib.run_eql_slice_nil (P:=prog) w 35 38 none 0 c 0 0 underlying35;clear h;go_enter func209,ntmps209;exact BF
 .obtain⟨E,F,cs,b,h1,h2,_⟩:=h;injection b with b _ A;subst b A;have heq:=Lib.run_eql_slice_nil (P:=prog) w 35 38 (some k) l.length c 0 0 underlying35;have d:Below w.heap.size w (w.alloc (.cells #[] 38)):=(Below.refl _ _).alloc (lR _) _;have g:=aA (World.ownsRow_made (e:=38) w #[] 0 (lR _) (by simp[maxLen]) rfl:(w.alloc (.cells #[] 38)).ownsRow w.heap.size 38 7 (.slice (some ⟨w.heap.size,0,none⟩) 0 0) 0 []);have t:=aA (h2.len (fun _ _ f=>(bB n).len f));have x:=aA (h2.aDh (fun _ _ f=>(bB n).one f));obtain⟨z,s,r,j⟩:=dD (h1.lt.below d) h2 d o;clear h1 h2 d o;go_enter func209,ntmps209;go_wp2_with (at_builtin;refine fQ aCj rfl (.tmp 5) (.tmp 6) rfl w.heap.size (.slice (some ⟨w.heap.size,0,none⟩) 0 0) 0 [] rfl g.o (some k) l.length c cs rfl t.o (z.o.more qs) x.o (by have:=j.o;unfold maxLen;omega) (qA j.o) qs ?_;intro D c1 w1 q m B;have i:=aA (dU g.o r.o m (lR _) qs);have y:=aA q;clear q m B)
  go_returns;have p:=y.o;simp only[Nat.zero_add,List.nil_append] at p ⊢;exact⟨_,rfl,lI (bB n) s.o i.o p,i.o⟩
theorem Gx(a b:bY):(!Op.bytesLess a.toList b.toList)=gR b a:=by
 rw[vX];unfold gR;by_cases h:a.toList<b.toList
 .rw[dX h,dF (fun k=>k h)];rfl
 .rw[dF h,dX h];rfl
theorem Gy(x:cF)(a la:oD)(b lc:Nat)(p:Nat)(N:bY)(w:World)(hp:iZ w p 0 (.string N)):Calls prog 154 #[.agg #[.string x.id,.string x.aDb,.string x.aC5,.slice a x.aCP.length b,.slice la x.log.length lc],.pointer (some ⟨p,0,none⟩)] w (aP (.bool (gR N x.id)) w):=by
 unfold aP;have h1:p≠w.heap.size:=qA hp.2;obtain⟨hp,c⟩:=hp;go_enter func154,ntmps154;go_wp2;go_returns;exact⟨bH (Gx x.id N),aB _ _⟩
theorem Bw(x:pQ)(p:Nat)(N:bY)(w:World)(hp:iZ w p 0 (.string N)):Calls prog 112 #[.agg #[.string x.1,.int .i64 x.2.1,.int .i64 x.2.2.1,.string x.2.2.2],.pointer (some ⟨p,0,none⟩)] w (aP (.bool (decide (x.1=N))) w):=by
 unfold aP;have h1:p≠w.heap.size:=qA hp.2;obtain⟨hp,a⟩:=hp;go_enter func112,ntmps112;go_wp2;go_returns;exact⟨bH (jD x.1 N),aB _ _⟩
theorem Bx(x:pQ)(p:Nat)(N:bY)(w:World)(hp:iZ w p 0 (.string N)):Calls prog 166 #[.agg #[.string x.1,.int .i64 x.2.1,.int .i64 x.2.2.1,.string x.2.2.2],.pointer (some ⟨p,0,none⟩)] w (aP (.bool (gR N x.1)) w):=by
 unfold aP;have h1:p≠w.heap.size:=qA hp.2;obtain⟨hp,a⟩:=hp;go_enter func166,ntmps166;go_wp2;go_returns;exact⟨bH (Gx x.1 N),aB _ _⟩
theorem Gz(x:tU)(p:Nat)(N:bY)(w:World)(hp:iZ w p 0 (.string N)):Calls prog 204 #[.agg #[.int .i64 x.aCR,.string x.aDj,.string x.aDN],.pointer (some ⟨p,0,none⟩)] w (aP (.bool (decide (x.aDj=N))) w):=by
 unfold aP;have h1:p≠w.heap.size:=qA hp.2;obtain⟨hp,a⟩:=hp;go_enter func204,ntmps204;go_wp2;go_returns;exact⟨bH (jD x.aDj N),aB _ _⟩
theorem Ha(x:cF)(a la:oD)(b lc:Nat)(p:Nat)(N:bY)(w:World)(hp:iZ w p 2 (.string N)):Calls prog 170 #[.agg #[.string x.id,.string x.aDb,.string x.aC5,.slice a x.aCP.length b,.slice la x.log.length lc],.pointer (some ⟨p,0,none⟩)] w (aP (.bool (decide (x.id=N))) w):=by
 unfold aP;have h1:p≠w.heap.size:=qA hp.2;obtain⟨hp,c⟩:=hp;go_enter func170,ntmps170;go_wp2;go_returns;exact⟨bH (jD x.id N),aB _ _⟩
theorem Hb(x:cF)(a la:oD)(b lc:Nat)(w:World):Calls prog 115 #[.agg #[.string x.id,.string x.aDb,.string x.aC5,.slice a x.aCP.length b,.slice la x.log.length lc]] w (aP (.bool (decide (256<x.log.length))) w):=by
 unfold aP;go_enter func115,ntmps115;go_wp2;go_returns;exact⟨bH (by rw[Bool.eq_iff_iff];simp;omega),aB _ _⟩
theorem By(x:Ob)(p:Nat)(N:bY)(w:World)(hp:iZ w p 0 (.string N)):Calls prog 109 #[.agg #[.int .i64 x.on,.int .i64 x.aCJ,.string x.arg],.pointer (some ⟨p,0,none⟩)] w (aP (.bool (decide (x.aCJ=2)&&decide (x.arg=N))) w):=by
 unfold aP;have h1:p≠w.heap.size:=qA hp.2;obtain⟨hp,e⟩:=hp;obtain⟨f,b,d⟩:=x;dsimp only;go_enter func109,ntmps109;by_cases a:b=2
 .have c:(b==2)=true:=bQ.2 a;go_wp2;go_returns;refine⟨bH ?_,aB _ _⟩;rw[dX a,Bool.true_and];exact jD d N
 .have c:(b==2)=false:=bN.2 a;go_wp2;go_returns;refine⟨bH ?_,aB _ _⟩;rw[dF a];rfl
theorem Hc(x:vU)(p q:Nat)(N:bY)(T:Int)(w:World)(hp:iZ w p 0 (.string N))(b:iZ w q 0 (.int .i64 T))(e:0<=x.aCR/\x.aCR<=T/\T<=1099511627776):Calls prog 161 #[.agg #[.int .i64 x.id,.int .i64 x.aCR,.string x.aCZ,.string x.aCQ,.string x.action,.string x.aC7,.bool x.open_],.pointer (some ⟨p,0,none⟩),.pointer (some ⟨q,0,none⟩)] w (aP (.bool (decide (x.aCZ=N)&&(x.open_&&decide (100<=T - x.aCR)))) w):=by
 unfold aP;have h1:p≠w.heap.size:=qA hp.2;have h2:q≠w.heap.size:=qA b.2;obtain⟨hp,g⟩:=hp;obtain⟨b,i⟩:=b;obtain⟨j,k,c,l,m,n,f⟩:=x;dsimp only at e ⊢;go_enter func161,ntmps161;by_cases a:c=N
 .have d:(c.toList==N.toList)=true:=by rw[jD];exact dX a
  cases f
  .go_wp2;go_returns;exact⟨bH (by rw[dX a];rfl),aB _ _⟩
  .go_wp2;go_returns;exact⟨bH (by rw[dX a];simp),aB _ _⟩
 .have d:(c.toList==N.toList)=false:=by rw[jD];exact dF a
  go_wp2;go_returns;exact⟨bH (by rw[dF a];rfl),aB _ _⟩
theorem XG{ok:nP}(v:Value)(l:List cF)(N:bY)(p:Nat)(w:World)(h:aH pW w ok v l)(m:iZ w p 0 (.string N)):Calls prog 153 #[v,.func (.func 154) #[] #[.pointer (some ⟨p,0,none⟩)]] w (aP (.int .i64 (eU (fun x=>gR N x.id) l)) w):=by
 obtain⟨a,c,rfl,B⟩:=h.slice;have s:=aA h;have o:=aA (fun wr (t:Below w.heap.size w wr)=>(m.on t:iZ wr p 0 (.string N)));clear h m;obtain⟨PR,d⟩:∃PR:cF->Bool,PR=(fun x=>gR N x.id):=⟨_,rfl⟩;have q:=aA d;rw[<-d];clear d;unfold aP;go_enter func153,ntmps153;go_wp2;go_loopw [5,8] (fun _ i wr=>∃k:Nat,k<=l.length/\i=.int .i64 k/\Hid (∀i (hi:i<l.length),i<k->PR l[i]=false)/\Hid (Below w.heap.size w wr)) (fun _ i _=>l.length - (intOf i).toNat)
 case atStart=>exact BC
 case round=>
  obtain⟨k,A,rfl,HR,HB⟩:=hrel;by_cases hlt:k<l.length
  .have hk1:(k:Int)<(l.length:Int):=qo;obtain⟨b,off,r,rfl,_,z,⟨C,D,rfl,n⟩,hcl⟩:=aH.at dK (s.o.on dK HB.o) hlt qe;obtain⟨f,j,rfl,_⟩:=n.2.2.2.1.slice;obtain⟨la,lc,rfl,_⟩:=n.2.2.2.2.slice;obtain⟨y,E,F,G,H⟩:=FM hcl;rw[Nat.add_zero] at y;have HI:Hid (Calls prog 154 #[.agg #[.string l[k].id,.string l[k].aDb,.string l[k].aC5,.slice f l[k].aCP.length j,.slice la l[k].log.length lc],.pointer (some ⟨p,0,none⟩)] wr (aP (.bool (PR l[k])) wr)):=by rw[q.o];exact aA (Gy l[k] f la j lc p N wr (o.o wr HB.o))
   exact JW
  .exact JV
theorem TF{ok:nP}(v:Value)(l:List pQ)(N:bY)(p:Nat)(w:World)(h:aH lE w ok v l)(f:iZ w p 0 (.string N)):Calls prog 111 #[v,.func (.func 112) #[] #[.pointer (some ⟨p,0,none⟩)]] w (aP (.int .i64 (eU (fun x=>decide (x.1=N)) l)) w):=by
 obtain⟨a,c,rfl,z⟩:=h.slice;have n:=aA h;have j:=aA (fun wr (o:Below w.heap.size w wr)=>(f.on o:iZ wr p 0 (.string N)));clear h f;obtain⟨PR,d⟩:∃PR:pQ->Bool,PR=(fun x=>decide (x.1=N)):=⟨_,rfl⟩;have m:=aA d;rw[<-d];clear d;unfold aP;go_enter func111,ntmps111;go_wp2;go_loopw [5,8] (fun _ i wr=>∃k:Nat,k<=l.length/\i=.int .i64 k/\Hid (∀i (hi:i<l.length),i<k->PR l[i]=false)/\Hid (Below w.heap.size w wr)) (fun _ i _=>l.length - (intOf i).toNat)
 case atStart=>exact BC
 case round=>
  obtain⟨k,y,rfl,HR,HB⟩:=hrel;by_cases hlt:k<l.length
  .have hk1:(k:Int)<(l.length:Int):=qo;obtain⟨b,off,r,rfl,_,s,⟨rfl,t⟩,hcl⟩:=aH.at bP (n.o.on bP HB.o) hlt qe;obtain⟨q,A,B,C⟩:=Fm hcl;rw[Nat.add_zero] at q;have HI:Hid (Calls prog 112 #[.agg #[.string l[k].1,.int .i64 l[k].2.1,.int .i64 l[k].2.2.1,.string l[k].2.2.2],.pointer (some ⟨p,0,none⟩)] wr (aP (.bool (PR l[k])) wr)):=by rw[m.o];exact aA (Bw l[k] p N wr (j.o wr HB.o))
   exact JW
  .exact JV
theorem TG{ok:nP}(v:Value)(l:List pQ)(N:bY)(p:Nat)(w:World)(h:aH lE w ok v l)(f:iZ w p 0 (.string N)):Calls prog 111 #[v,.func (.func 166) #[] #[.pointer (some ⟨p,0,none⟩)]] w (aP (.int .i64 (eU (fun x=>gR N x.1) l)) w):=by
 obtain⟨a,c,rfl,z⟩:=h.slice;have n:=aA h;have j:=aA (fun wr (o:Below w.heap.size w wr)=>(f.on o:iZ wr p 0 (.string N)));clear h f;obtain⟨PR,d⟩:∃PR:pQ->Bool,PR=(fun x=>gR N x.1):=⟨_,rfl⟩;have m:=aA d;rw[<-d];clear d;unfold aP;go_enter func111,ntmps111;go_wp2;go_loopw [5,8] (fun _ i wr=>∃k:Nat,k<=l.length/\i=.int .i64 k/\Hid (∀i (hi:i<l.length),i<k->PR l[i]=false)/\Hid (Below w.heap.size w wr)) (fun _ i _=>l.length - (intOf i).toNat)
 case atStart=>exact BC
 case round=>
  obtain⟨k,y,rfl,HR,HB⟩:=hrel;by_cases hlt:k<l.length
  .have hk1:(k:Int)<(l.length:Int):=qo;obtain⟨b,off,r,rfl,_,s,⟨rfl,t⟩,hcl⟩:=aH.at bP (n.o.on bP HB.o) hlt qe;obtain⟨q,A,B,C⟩:=Fm hcl;rw[Nat.add_zero] at q;have HI:Hid (Calls prog 166 #[.agg #[.string l[k].1,.int .i64 l[k].2.1,.int .i64 l[k].2.2.1,.string l[k].2.2.2],.pointer (some ⟨p,0,none⟩)] wr (aP (.bool (PR l[k])) wr)):=by rw[m.o];exact aA (Bx l[k] p N wr (j.o wr HB.o))
   exact JW
  .exact JV
theorem XH{ok:nP}(v:Value)(l:List tU)(N:bY)(p:Nat)(w:World)(h:aH mS w ok v l)(f:iZ w p 0 (.string N)):Calls prog 239 #[v,.func (.func 204) #[] #[.pointer (some ⟨p,0,none⟩)]] w (aP (.int .i64 (eU (fun x=>decide (x.aDj=N)) l)) w):=by
 obtain⟨a,c,rfl,z⟩:=h.slice;have n:=aA h;have j:=aA (fun wr (o:Below w.heap.size w wr)=>(f.on o:iZ wr p 0 (.string N)));clear h f;obtain⟨PR,d⟩:∃PR:tU->Bool,PR=(fun x=>decide (x.aDj=N)):=⟨_,rfl⟩;have m:=aA d;rw[<-d];clear d;unfold aP;go_enter func239,ntmps239;go_wp2;go_loopw [5,8] (fun _ i wr=>∃k:Nat,k<=l.length/\i=.int .i64 k/\Hid (∀i (hi:i<l.length),i<k->PR l[i]=false)/\Hid (Below w.heap.size w wr)) (fun _ i _=>l.length - (intOf i).toNat)
 case atStart=>exact BC
 case round=>
  obtain⟨k,y,rfl,HR,HB⟩:=hrel;by_cases hlt:k<l.length
  .have hk1:(k:Int)<(l.length:Int):=qo;obtain⟨b,off,r,rfl,_,s,⟨rfl,t⟩,hcl⟩:=aH.at bW (n.o.on bW HB.o) hlt qe;obtain⟨q,A,B⟩:=cR3 hcl;rw[Nat.add_zero] at q;have HI:Hid (Calls prog 204 #[.agg #[.int .i64 l[k].aCR,.string l[k].aDj,.string l[k].aDN],.pointer (some ⟨p,0,none⟩)] wr (aP (.bool (PR l[k])) wr)):=by rw[m.o];exact aA (Gz l[k] p N wr (j.o wr HB.o))
   exact JW
  .exact JV
theorem XI{ok:nP}(v:Value)(l:List cF)(N:bY)(p:Nat)(w:World)(h:aH pW w ok v l)(m:iZ w p 2 (.string N)):Calls prog 153 #[v,.func (.func 170) #[] #[.pointer (some ⟨p,0,none⟩)]] w (aP (.int .i64 (eU (fun x=>decide (x.id=N)) l)) w):=by
 obtain⟨a,c,rfl,B⟩:=h.slice;have s:=aA h;have o:=aA (fun wr (t:Below w.heap.size w wr)=>(m.on t:iZ wr p 2 (.string N)));clear h m;obtain⟨PR,d⟩:∃PR:cF->Bool,PR=(fun x=>decide (x.id=N)):=⟨_,rfl⟩;have q:=aA d;rw[<-d];clear d;unfold aP;go_enter func153,ntmps153;go_wp2;go_loopw [5,8] (fun _ i wr=>∃k:Nat,k<=l.length/\i=.int .i64 k/\Hid (∀i (hi:i<l.length),i<k->PR l[i]=false)/\Hid (Below w.heap.size w wr)) (fun _ i _=>l.length - (intOf i).toNat)
 case atStart=>exact BC
 case round=>
  obtain⟨k,A,rfl,HR,HB⟩:=hrel;by_cases hlt:k<l.length
  .have hk1:(k:Int)<(l.length:Int):=qo;obtain⟨b,off,r,rfl,_,z,⟨C,D,rfl,n⟩,hcl⟩:=aH.at dK (s.o.on dK HB.o) hlt qe;obtain⟨f,j,rfl,_⟩:=n.2.2.2.1.slice;obtain⟨la,lc,rfl,_⟩:=n.2.2.2.2.slice;obtain⟨y,E,F,G,H⟩:=FM hcl;rw[Nat.add_zero] at y;have HI:Hid (Calls prog 170 #[.agg #[.string l[k].id,.string l[k].aDb,.string l[k].aC5,.slice f l[k].aCP.length j,.slice la l[k].log.length lc],.pointer (some ⟨p,0,none⟩)] wr (aP (.bool (PR l[k])) wr)):=by rw[q.o];exact aA (Ha l[k] f la j lc p N wr (o.o wr HB.o))
   exact JW
  .exact JV
theorem XJ{ok:nP}(v:Value)(l:List cF)(w:World)(h:aH pW w ok v l)(p:True):Calls prog 153 #[v,.func (.func 115) #[] #[]] w (aP (.int .i64 (eU (fun x=>decide (256<x.log.length)) l)) w):=by
 obtain⟨a,c,rfl,A⟩:=h.slice;have o:=aA h;have s:=aA (fun wr (t:Below w.heap.size w wr)=>(trivial:True));clear h p;obtain⟨PR,d⟩:∃PR:cF->Bool,PR=(fun x=>decide (256<x.log.length)):=⟨_,rfl⟩;have n:=aA d;rw[<-d];clear d;unfold aP;go_enter func153,ntmps153;go_wp2;go_loopw [5,8] (fun _ i wr=>∃k:Nat,k<=l.length/\i=.int .i64 k/\Hid (∀i (hi:i<l.length),i<k->PR l[i]=false)/\Hid (Below w.heap.size w wr)) (fun _ i _=>l.length - (intOf i).toNat)
 case atStart=>exact BC
 case round=>
  obtain⟨k,z,rfl,HR,HB⟩:=hrel;by_cases hlt:k<l.length
  .have hk1:(k:Int)<(l.length:Int):=qo;obtain⟨b,off,r,rfl,_,y,⟨B,C,rfl,m⟩,hcl⟩:=aH.at dK (o.o.on dK HB.o) hlt qe;obtain⟨f,j,rfl,_⟩:=m.2.2.2.1.slice;obtain⟨la,lc,rfl,_⟩:=m.2.2.2.2.slice;obtain⟨q,D,E,F,G⟩:=FM hcl;rw[Nat.add_zero] at q;have HI:Hid (Calls prog 115 #[.agg #[.string l[k].id,.string l[k].aDb,.string l[k].aC5,.slice f l[k].aCP.length j,.slice la l[k].log.length lc],] wr (aP (.bool (PR l[k])) wr)):=by rw[n.o];exact aA (Hb l[k] f la j lc wr)
   exact JW
  .exact JV
theorem TH{ok:nP}(v:Value)(l:List Ob)(N:bY)(p:Nat)(w:World)(h:aH jU w ok v l)(f:iZ w p 0 (.string N)):Calls prog 168 #[v,.func (.func 109) #[] #[.pointer (some ⟨p,0,none⟩)]] w (aP (.int .i64 (eU (fun x=>decide (x.aCJ=2)&&decide (x.arg=N)) l)) w):=by
 obtain⟨a,c,rfl,z⟩:=h.slice;have n:=aA h;have j:=aA (fun wr (o:Below w.heap.size w wr)=>(f.on o:iZ wr p 0 (.string N)));clear h f;obtain⟨PR,d⟩:∃PR:Ob->Bool,PR=(fun x=>decide (x.aCJ=2)&&decide (x.arg=N)):=⟨_,rfl⟩;have m:=aA d;rw[<-d];clear d;unfold aP;go_enter func168,ntmps168;go_wp2;go_loopw [5,8] (fun _ i wr=>∃k:Nat,k<=l.length/\i=.int .i64 k/\Hid (∀i (hi:i<l.length),i<k->PR l[i]=false)/\Hid (Below w.heap.size w wr)) (fun _ i _=>l.length - (intOf i).toNat)
 case atStart=>exact BC
 case round=>
  obtain⟨k,y,rfl,HR,HB⟩:=hrel;by_cases hlt:k<l.length
  .have hk1:(k:Int)<(l.length:Int):=qo;obtain⟨b,off,r,rfl,_,s,⟨rfl,t⟩,hcl⟩:=aH.at aO (n.o.on aO HB.o) hlt qe;obtain⟨q,A,B⟩:=cR3 hcl;rw[Nat.add_zero] at q;have HI:Hid (Calls prog 109 #[.agg #[.int .i64 l[k].on,.int .i64 l[k].aCJ,.string l[k].arg],.pointer (some ⟨p,0,none⟩)] wr (aP (.bool (PR l[k])) wr)):=by rw[m.o];exact aA (By l[k] p N wr (j.o wr HB.o))
   exact JW
  .exact JV
theorem XK{ok:nP}(v:Value)(l:List vU)(N:bY)(T:Int)(p q:Nat)(w:World)(h:aH sR w ok v l)(d:iZ w p 0 (.string N)/\iZ w q 0 (.int .i64 T)/\(∀x∈l,0<=x.aCR/\x.aCR<=T/\T<=1099511627776)):Calls prog 205 #[v,.func (.func 161) #[] #[.pointer (some ⟨p,0,none⟩),.pointer (some ⟨q,0,none⟩)]] w (aP (.int .i64 (eU (fun x=>decide (x.aCZ=N)&&(x.open_&&decide (100<=T - x.aCR))) l)) w):=by
 obtain⟨a,c,rfl,A⟩:=h.slice;have o:=aA h;have f:=aA (fun wr (m:Below w.heap.size w wr)=>(⟨d.1.on m,d.2.1.on m,d.2.2⟩:iZ wr p 0 (.string N)/\iZ wr q 0 (.int .i64 T)/\(∀x∈l,0<=x.aCR/\x.aCR<=T/\T<=1099511627776)));clear h d;obtain⟨PR,j⟩:∃PR:vU->Bool,PR=(fun x=>decide (x.aCZ=N)&&(x.open_&&decide (100<=T - x.aCR))):=⟨_,rfl⟩;have n:=aA j;rw[<-j];clear j;unfold aP;go_enter func205,ntmps205;go_wp2;go_loopw [5,8] (fun _ i wr=>∃k:Nat,k<=l.length/\i=.int .i64 k/\Hid (∀i (hi:i<l.length),i<k->PR l[i]=false)/\Hid (Below w.heap.size w wr)) (fun _ i _=>l.length - (intOf i).toNat)
 case atStart=>exact BC
 case round=>
  obtain⟨k,z,rfl,HR,HB⟩:=hrel;by_cases hlt:k<l.length
  .have hk1:(k:Int)<(l.length:Int):=qo;obtain⟨b,off,r,rfl,_,t,⟨rfl,y⟩,hcl⟩:=aH.at cT (o.o.on cT HB.o) hlt qe;obtain⟨s,B,C,D,E,F,G⟩:=CD hcl;rw[Nat.add_zero] at s;have HI:Hid (Calls prog 161 #[.agg #[.int .i64 l[k].id,.int .i64 l[k].aCR,.string l[k].aCZ,.string l[k].aCQ,.string l[k].action,.string l[k].aC7,.bool l[k].open_],.pointer (some ⟨p,0,none⟩),.pointer (some ⟨q,0,none⟩)] wr (aP (.bool (PR l[k])) wr)):=by rw[n.o];exact aA (Hc l[k] p q N T wr (f.o wr HB.o).1 (f.o wr HB.o).2.1 ((f.o wr HB.o).2.2 _ (List.getElem_mem hlt)))
   exact JW
  .exact JV
theorem Rq{p:Prop}(h:p:=by
 go_wp2;go_returns;exact⟨by rw[<-HE.o];rfl,HB.o⟩):p:=h
theorem QCf{p:Prop}(h:p:=by
 go_wp2_with fail;refine HI.o.mono ?_;rintro e w1 ⟨rfl,hb_⟩;have HB1:=qB HB0 hb_;clear hb_ HI;go_wp2;go_returns;exact⟨by rw[<-HA.o];rfl,HB1.o⟩):p:=h
theorem QCd{p:Prop}(h:p:=by
 have HF:=aA (HL.o true rfl);clear HL;go_wp2;go_returns;exact⟨by have:=HF.o;rw[iP trivial] at this;rw[this];rfl,HB0.o.trans (HB'.o.mono HB0.o.size)⟩):p:=h
theorem QBK{p:Prop}(h:p:=by
 have hk1:¬(k:Int)<(l.length:Int):=qo;obtain rfl:k=l.length:=qo;have HF:=aA (OD HR.o);clear HR;go_wp2;go_returns;exact⟨by rw[HF.o];rfl,HB0.o.trans (HB.o.mono HB0.o.size)⟩):p:=h
theorem Rr{p:Prop}(h:p:=by
 refine HI.o.mono ?_;rintro e w1 ⟨rfl,hb_⟩;have HB1:=qB HB0 hb_;clear hb_ HI;go_wp2;go_returns;exact⟨rfl,HB1.o⟩):p:=h
theorem CV{a b:bY}:a.toList=b.toList↔a=b:=⟨fun h=>by rw[Lib.toList_data,Lib.toList_data] at h;exact ByteArray.ext (Array.ext' h),fun h=>by rw[h]⟩
def CW(m:Ma)(v:V3)(w:World)(e:Ending)(w':World):Prop:=e=.returned (.tuple #[.bool (kC m v).1,.int .i64 (kC m v).2])/\Below w.heap.size w w'
theorem XL(m:Ma)(v:V3)(hm:tR m)(j:cS v)(w:World):Calls prog 238 #[kN m,dB v] w (CW m v w):=by
 have b:=aA (fun w=>CP v m.val j hm.2.2 w);have c:=aA (fun w=>CP m.val v hm.2.2 j w);obtain⟨⟨ac,i,am⟩,op,mk,a,ms⟩:=m;obtain⟨vk,vn,vs⟩:=v;have k:=aA (aC (aB w (.cells #[.int .i64 ac,.string i,.bool am,.int .i64 op,.int .i64 mk,.int .i64 a,.string ms] 288)) (aB _ (.cells #[.int .i64 vk,.int .i64 vn,.string vs] 44)));unfold sV dB at b c;unfold dB kN;simp only at b c ⊢;clear hm j;by_cases h1:op=1
 .have d1:(op==1)=true:=bQ.2 h1;have H1:=aA h1;clear h1 b c;go_enter func238,ntmps238;go_wp2
  all_goals go_returns
  all_goals
   unfold CW kC;simp only[H1.o,if_true];refine⟨?_,aC (aB _ _) (aB _ _)⟩
   simp_all [CV]
 .have d1:(op==1)=false:=bN.2 h1;by_cases h2:op=2
  .have d2:(op==2)=true:=bQ.2 h2;have g:Hid (kC ⟨⟨ac,i,am⟩,op,mk,a,ms⟩ (vk,vn,vs)=jT (vk,vn,vs) (mk,a,ms)):=aA (by unfold kC;simp only[iN h1,iP h2]);generalize jT (vk,vn,vs) (mk,a,ms)=r at *;obtain⟨l,n⟩:=r;clear h1 h2 c;go_enter func238,ntmps238;go_wp2_with fail;refine(b.o _).mono ?_;rintro e w1 ⟨rfl,d⟩;have f:=qB k d;clear d b;go_wp2;go_returns;unfold CW;rw[g.o];exact⟨rfl,f.o⟩
  .have d2:(op==2)=false:=bN.2 h2;have g:Hid (kC ⟨⟨ac,i,am⟩,op,mk,a,ms⟩ (vk,vn,vs)=jT (mk,a,ms) (vk,vn,vs)):=aA (by unfold kC;simp only[iN h1,iN h2]);generalize jT (mk,a,ms) (vk,vn,vs)=r at *;obtain⟨l,n⟩:=r;clear h1 h2 b;go_enter func238,ntmps238;go_wp2_with fail;refine(c.o _).mono ?_;rintro e w1 ⟨rfl,d⟩;have f:=qB k d;clear d c;go_wp2;go_returns;unfold CW;rw[g.o];exact⟨rfl,f.o⟩
theorem QK{m:Ma}{l:List V3}{k out R:Nat}(a:k<l.length)(h:mD m (l.drop k) out=R):(if (kC m l[k]).1=true then 2 else mD m (l.drop (k+1)) (if (kC m l[k]).2≠0 then 1 else out))=R:=by
 rw[List.drop_eq_getElem_cons a] at h;exact h
theorem JX{ok:nP}(m:Ma)(hm:tR m)(F:Value)(g:List Gv)(w:World)(h:aH jN w ok F g):Calls prog 202 #[kN m,F] w (aP (.int .i64 (oN g m:Nat)) w):=by
 have t:=aA (aB w (.cells (JP m) 288));have G:=aA (aK w (.cells (JP m) 288) _ rfl);have j:=aA (TC F g m.aDa _ (h.on cA t.o));have B:=aA (fun v T w=>XL m v hm T w);obtain⟨a,c,rfl,ad⟩:=h.slice;unfold aP oN kN;unfold sX oG at j;unfold CW kN dB at B;clear h hm;obtain⟨bag,J,L⟩:∃b e,rJ g m.aDa=(b,e):=⟨_,_,rfl⟩;rw[L] at j ⊢;clear L;simp only at j ⊢;by_cases he:J=0
 case neg=>
  rw[iP he];have d:(J != 0)=true:=bne_iff_ne.2 he;clear he B;go_enter func202,ntmps202;go_wp2_with fail;refine j.o.mono ?_;rintro e w1 ⟨v,rfl,q,f⟩;have l:=qB t f;clear q f j;go_wp2;go_returns;exact⟨rfl,l.o⟩
 subst he;rw[iN (fun h=>h rfl)];obtain⟨res,E⟩:=xE (mD m bag 0);rw[<-E];have I:Hid (mD m (bag.drop 0) 0=res):=aA (by rw[List.drop_zero];exact E.symm);clear E;go_enter func202,ntmps202;go_wp2_with fail;refine j.o.mono ?_;rintro e w1 ⟨v,rfl,q,f⟩;obtain⟨l,P,R⟩:=aY (aC t.o f) (aE G.o f) q;obtain⟨ba,bc,rfl,aa⟩:=q.slice;clear q f j G t;go_wp2;go_loopw [7,23] (fun o i wr=>∃k out:Nat,k<=bag.length/\i=.int .i64 k/\o=.int .i64 out/\Hid (mD m (bag.drop k) out=res)/\Hid (Below w1.heap.size w1 wr)) (fun _ i _=>bag.length - (intOf i).toNat)
 case atStart=>exact⟨0,0,Nat.zero_le _,rfl,rfl,I,aA (Below.refl _ _)⟩
 case round=>
  clear I;obtain⟨k,out,hk,rfl,rfl,y,s⟩:=hrel;by_cases N:k<bag.length
  .have S:(k:Int)<(bag.length:Int):=qo;obtain⟨b,off,r,rfl,_,ab,⟨rfl,M⟩,K⟩:=aH.at bG (R.o.on bG s.o) N qe;obtain⟨O,W,X⟩:=cR3 K;rw[Nat.add_zero] at O;have H:=qK P s.o;obtain⟨⟨Y,Z,y2,y3,y4,y5,y6⟩,_⟩:=bI H.o;have U:=aD H.o;have p:=aA (QK N y.o);have A:=aA (B.o bag[k] M);clear K y M;generalize bag[k]=x at *;generalize kC m x=r at *;obtain⟨V,z⟩:=r;simp only at A p;go_wp2_with fail;refine(A.o _).mono ?_;rintro e w2 ⟨rfl,f⟩;have C:=aA (aC (aC s.o (aB _ _)) f);clear f A O W X Y Z y2 y3 y4 y5 y6 U
   cases V
   .have n:Hid (mD m (bag.drop (k+1)) (if z≠0 then 1 else out)=res):=p.o;by_cases he:z=0
    .have d2:(z != 0)=false:=by rw[he];rfl
     have D:Hid (mD m (bag.drop (k+1)) out=res):=aA (by have:=n.o;rwa [iN (fun h=>h he)] at this);clear he p n;go_wp2;go_roundw
     case rel=>exact⟨k+1,out,qo,by go_num,rfl,D,C⟩
     case measure=>simp[intOf];omega
    .have d2:(z != 0)=true:=bne_iff_ne.2 he;have D:Hid (mD m (bag.drop (k+1)) 1=res):=aA (by have:=n.o;rwa [iP he] at this);clear he p n;go_wp2;go_roundw
     case rel=>exact⟨k+1,1,qo,by go_num,rfl,D,C⟩
     case measure=>simp[intOf];omega
   .have n:Hid (2=res):=p.o;clear p;go_wp2;go_returns;exact⟨by rw[<-n.o];rfl,l.o.trans (C.o.mono l.o.size)⟩
  .have S:¬(k:Int)<(bag.length:Int):=qo;obtain rfl:k=bag.length:=qo;have Q:Hid (out=res):=aA (by have:=y.o;rwa [List.drop_length] at this);clear y;go_wp2;go_returns;exact⟨by rw[<-Q.o];rfl,l.o.trans (s.o.mono l.o.size)⟩
theorem Xl(p q:Nat)(a:Array TypeId)(t:TypeId)(w:World):(Builtin.min_ a t #[.int .i64 (p:Int),.int .i64 (q:Int)]).run prog w=.ok (.int .i64 ((min p q:Nat):Int)) w:=by
 simp[Builtin.min_,Builtin.min2]
 rcases Nat.lt_or_ge q p with h|h<;>simp[h]<;>omega
theorem aCk(p q:Nat)(a:Array TypeId)(t:TypeId)(w:World):(Builtin.max_ a t #[.int .i64 (p:Int),.int .i64 (q:Int)]).run prog w=.ok (.int .i64 ((max p q:Nat):Int)) w:=by
 simp[Builtin.max_,Builtin.max2]
 rcases Nat.lt_or_ge p q with h|h<;>simp[h]<;>omega
theorem CX{α β:Type}{f:β->α->β}{l:List α}{k:Nat}{out R:β}(a:k<l.length)(h:(l.drop k).foldl f out=R):(l.drop (k+1)).foldl f (f out l[k])=R:=by
 rw[List.drop_eq_getElem_cons a] at h;exact h
theorem IN{α β:Type}{f:β->α->β}{l:List α}{out R:β}(h:(l.drop l.length).foldl f out=R):out=R:=by
 rw[List.drop_length] at h;exact h
theorem Nk{ok ok':nP}(A:Value)(l:List Ma)(z:Value)(g:List Gv)(w:World)(j:aH rM w ok' A l)(h:aH jN w ok z g):Calls prog 231 #[A,z] w (aP (.int .i64 (zD g l:Nat)) w):=by
 obtain⟨a,c,rfl,Q⟩:=h.slice;obtain⟨la,lc,rfl,R⟩:=j.slice;have E:=aA j;have D:=aA h;clear h j;unfold aP zD;obtain⟨res,p⟩:=xE (l.foldl (fun out m=>min out (oN g m)) 2);rw[<-p];have q:Hid ((l.drop 0).foldl (fun out m=>min out (oN g m)) 2=res):=aA (by rw[List.drop_zero];exact p.symm);clear p;go_enter func231,ntmps231;go_wp2;go_loopw [5,10] (fun o i wr=>∃k out:Nat,k<=l.length/\i=.int .i64 k/\o=.int .i64 out/\Hid ((l.drop k).foldl (fun out m=>min out (oN g m)) out=res)/\Hid (Below w.heap.size w wr)) (fun _ i _=>l.length - (intOf i).toNat)
 case atStart=>exact⟨0,2,Nat.zero_le _,rfl,rfl,q,aA (Below.refl _ _)⟩
 case round=>
  clear q;obtain⟨k,out,P,rfl,rfl,d,HB⟩:=hrel;by_cases y:k<l.length
  .have G:(k:Int)<(l.length:Int):=qo;obtain⟨b,off,r,rfl,_,O,⟨rfl,v⟩,t⟩:=aH.at eP (E.o.on eP HB.o) y qe;obtain⟨B,I,J,K,L,M,N⟩:=CD t;rw[Nat.add_zero] at B;have F:=aA (CX y d.o);have f:=aA (JX l[k] v _ g (wr.alloc (.cells #[.int .i64 l[k].aDa.cat,.string l[k].aDa.name,.bool l[k].aDa.aDi,.int .i64 l[k].op,.int .i64 l[k].val.1,.int .i64 l[k].val.2.1,.string l[k].val.2.2] 288)) (D.o.on cA (HB.o.alloc HB.o.size _)));unfold aP kN at f;clear t d v;generalize l[k]=x at *;generalize oN g x=n at *;have H:=Xl out n;go_wp2_with fail;refine f.o.mono ?_;rintro e w2 ⟨rfl,s⟩;have C:=aA (aC (aC HB.o (aB _ _)) s);clear s f B I J K L M N;go_wp2;clear H;go_roundw
   case rel=>exact⟨k+1,min out n,qo,by go_num,rfl,F,C⟩
   case measure=>simp[intOf];omega
  .have G:¬(k:Int)<(l.length:Int):=qo;obtain rfl:k=l.length:=qo;have HE:=aA (IN d.o);clear d;exact Rq
theorem ZJ{ok ok':nP}(vt:Value)(t:Ta)(O:Value)(g:List Gv)(w:World)(H:nZ w ok' vt t)(h:aH jN w ok O g):Calls prog 198 #[vt,O] w (aP (.int .i64 (xO g t:Nat)) w):=by
 obtain⟨a,c,rfl,aa⟩:=h.slice;obtain⟨ta,tc,rfl,ab⟩:=H.slice;have S:=aA H;have R:=aA h;clear h H;unfold aP xO;obtain⟨F,B⟩:∃F:Nat->List (List Ma)->Nat,F=(fun out l=>min out (l.foldl (fun d x=>max d (zD g x)) 0)):=⟨_,rfl⟩;have Q:=aA B;rw[<-B];clear B;obtain⟨res,D⟩:=xE (t.foldl F 2);rw[<-D];have K:Hid ((t.drop 0).foldl F 2=res):=aA (by rw[List.drop_zero];exact D.symm);clear D;go_enter func198,ntmps198;go_wp2;go_loopw [5,13] (fun o i wr=>∃k out:Nat,k<=t.length/\i=.int .i64 k/\o=.int .i64 out/\Hid ((t.drop k).foldl F out=res)/\Hid (Below w.heap.size w wr)) (fun _ i _=>t.length - (intOf i).toNat)
 case atStart=>exact⟨0,2,Nat.zero_le _,rfl,rfl,K,aA (Below.refl _ _)⟩
 case round=>
  clear K;obtain⟨y,rfl⟩:∃y:World,y=wr:=⟨_,rfl⟩;obtain⟨k,out,hk,rfl,rfl,s,HB⟩:=hrel;by_cases N:k<t.length
  .have V:(k:Int)<(t.length:Int):=qo;obtain⟨b,off,r,rfl,_,Y,⟨vx,rfl,E⟩,f⟩:=aH.at aS (S.o.on aS HB.o) N qe;obtain⟨xa,xc,rfl,_⟩:=E.slice;have m:=f 0 _ rfl;rw[Nat.add_zero,Nat.mul_one] at m;have A:=aA (CX N s.o);have T:=aA E;have I:=aA (show F out t[k]=min out (t[k].foldl (fun d x=>max d (zD g x)) 0) by rw[Q.o]);clear f s E;generalize t[k]=l at *;obtain⟨d,C⟩:=xE (l.foldl (fun d x=>max d (zD g x)) 0);rw[<-C] at I;have J:Hid ((l.drop 0).foldl (fun d x=>max d (zD g x)) 0=d):=aA (by rw[List.drop_zero];exact C.symm);clear C;go_wp2;clear m;go_loopw [8,10,19] (fun o _ i wr=>∃j b:Nat,j<=l.length/\i=.int .i64 j/\o=.int .i64 b/\Hid ((l.drop j).foldl (fun d x=>max d (zD g x)) b=d)/\Hid (Below y.heap.size y wr)) (fun _ _ i _=>l.length - (intOf i).toNat)
   case atStart=>exact⟨0,0,Nat.zero_le _,rfl,rfl,J,aA (Below.refl _ _)⟩
   case round=>
    clear J;obtain⟨j,v,hj,rfl,rfl,q,p⟩:=hrel;by_cases M:j<l.length
    .have U:(j:Int)<(l.length:Int):=qo;obtain⟨b2,ad,r2,rfl,_,Z,⟨vy,rfl,G⟩,f⟩:=aH.at dO (T.o.on dO p.o) M qe;obtain⟨ya,yc,rfl,_⟩:=G.slice;have m:=f 0 _ rfl;rw[Nat.add_zero,Nat.mul_one] at m;have A:=aA (CX M q.o);have z:=aA (Nk _ _ _ g wr G (R.o.on cA (aC HB.o p.o)));unfold aP at z;clear f q G;generalize l[j]=x at *;generalize zD g x=n at *;have W:=aCk v n;go_wp2_with fail;refine z.o.mono ?_;rintro e w2 ⟨rfl,L⟩;have P:=qB p L;clear L z m;go_wp2;clear W;go_roundw
     case rel=>exact⟨j+1,max v n,qo,by go_num,rfl,A,P⟩
     case measure=>simp[intOf];omega
    .have U:¬(j:Int)<(l.length:Int):=qo;obtain rfl:j=l.length:=qo;have HE:=aA (IN q.o);clear q;have X:=Xl out v;go_wp2;clear X;go_roundw
     case rel=>exact⟨k+1,min out v,qo,by go_num,rfl,aA (by have:=A.o;rw[I.o,<-HE.o] at this;exact this),aA (aC HB.o p.o)⟩
     case measure=>simp[intOf];omega
  .have V:¬(k:Int)<(t.length:Int):=qo;obtain rfl:k=t.length:=qo;have HE:=aA (IN s.o);clear s;exact Rq
theorem Rt{p:Prop}(h:p:=by
 go_wp2_with fail;refine HI.o.mono ?_;rintro e w1 ⟨rfl,hb_⟩;have HB1:=aA hb_;clear hb_ HI;go_wp2;go_returns;exact⟨by rw[<-HA.o];rfl,HB1.o⟩):p:=h
theorem XM{ok:nP}(v:Value)(l:List tU)(N:bY)(p:Nat)(w:World)(h:aH mS w ok v l)(b:iZ w p 0 (.string N)):Calls prog 203 #[v,.func (.func 204) #[] #[.pointer (some ⟨p,0,none⟩)]] w (aP (.bool (l.any (fun x=>decide (x.aDj=N)))) w):=by
 have HI:=aA (XH v l N p w h b);have HA:=aA (sW (fun x=>decide (x.aDj=N)) l);obtain⟨a,c,rfl,f⟩:=h.slice;unfold aP at *;generalize eU (fun x=>decide (x.aDj=N)) l=n at *;generalize l.any (fun x=>decide (x.aDj=N))=d at *;clear h;go_enter func203,ntmps203;exact Rt
theorem XN{ok:nP}(v:Value)(l:List cF)(w:World)(h:aH pW w ok v l)(b:True):Calls prog 114 #[v,.func (.func 115) #[] #[]] w (aP (.bool (l.any (fun x=>decide (256<x.log.length)))) w):=by
 have HI:=aA (XJ v l w h b);have HA:=aA (sW (fun x=>decide (256<x.log.length)) l);obtain⟨a,c,rfl,f⟩:=h.slice;unfold aP at *;generalize eU (fun x=>decide (256<x.log.length)) l=n at *;generalize l.any (fun x=>decide (256<x.log.length))=d at *;clear h;go_enter func114,ntmps114;exact Rt
theorem TI{ok:nP}(v:Value)(l:List Ob)(N:bY)(p:Nat)(w:World)(h:aH jU w ok v l)(b:iZ w p 0 (.string N)):Calls prog 108 #[v,.func (.func 109) #[] #[.pointer (some ⟨p,0,none⟩)]] w (aP (.bool (l.any (fun x=>decide (x.aCJ=2)&&decide (x.arg=N)))) w):=by
 have HI:=aA (TH v l N p w h b);have HA:=aA (sW (fun x=>decide (x.aCJ=2)&&decide (x.arg=N)) l);obtain⟨a,c,rfl,f⟩:=h.slice;unfold aP at *;generalize eU (fun x=>decide (x.aCJ=2)&&decide (x.arg=N)) l=n at *;generalize l.any (fun x=>decide (x.aCJ=2)&&decide (x.arg=N))=d at *;clear h;go_enter func108,ntmps108;exact Rt
theorem XO{ok:nP}(v:Value)(l:List vU)(N:bY)(T:Int)(p q:Nat)(w:World)(h:aH sR w ok v l)(b:iZ w p 0 (.string N)/\iZ w q 0 (.int .i64 T)/\(∀x∈l,0<=x.aCR/\x.aCR<=T/\T<=1099511627776)):Calls prog 160 #[v,.func (.func 161) #[] #[.pointer (some ⟨p,0,none⟩),.pointer (some ⟨q,0,none⟩)]] w (aP (.bool (l.any (fun x=>decide (x.aCZ=N)&&(x.open_&&decide (100<=T - x.aCR))))) w):=by
 have HI:=aA (XK v l N T p q w h b);have HA:=aA (sW (fun x=>decide (x.aCZ=N)&&(x.open_&&decide (100<=T - x.aCR))) l);obtain⟨a,c,rfl,f⟩:=h.slice;unfold aP at *;generalize eU (fun x=>decide (x.aCZ=N)&&(x.open_&&decide (100<=T - x.aCR))) l=n at *;generalize l.any (fun x=>decide (x.aCZ=N)&&(x.open_&&decide (100<=T - x.aCR)))=d at *;clear h;go_enter func160,ntmps160;exact Rt
theorem Hd(x y:ByteArray×ByteArray)(w:World):Sem.run prog (binOp .eql 170 (.agg #[.string x.1,.string x.2]) (.agg #[.string y.1,.string y.2])) w=.ok (.bool (decide (x=y))) w:=by
 obtain⟨b,c⟩:=x;obtain⟨d,e⟩:=y;have u9:=underlying9;have a9:=isAgg9;have z9:=sizeOf9;have a:prog.underlying 170=some (.struct (prog.fieldsOf 170)):=by kernel_rfl
 have hp:prog.stoodInHeld 170=false:=by kernel_rfl
 rw[run_eql_struct,show (10000:Nat)=9999+1 from rfl,run_equalIn_agg w 9999 170 _ _ a hp];simp only[Program.fieldsOf,underlying170];go_simp;by_cases h1:b=d<;>by_cases h2:c=e<;>simp[h1,h2,CV]
theorem Bz{ok:nP}(v:Value)(l:List wV)(x:wV)(w:World)(h:aH qT w ok v l):Calls prog 197 #[v,.agg #[.string x.1,.string x.2]] w (aP (.int .i64 (eU (fun y=>decide (x=y)) l)) w):=by
 obtain⟨a,c,rfl,F⟩:=h.slice;have HB0:=aA (aB w (.cells #[.string x.1,.string x.2] 170));have m:=aA (aK w (.cells #[.string x.1,.string x.2] 170) _ rfl);have o:=aA (h.on dA HB0.o);obtain⟨w1,j⟩:=xE (w.alloc (.cells #[.string x.1,.string x.2] 170));rw[<-j] at o HB0 m;have z:=aA j;clear h j;obtain⟨d,f⟩:∃d:wV->Bool,d=(fun y=>decide (x=y)):=⟨_,rfl⟩;have t:=aA f;rw[<-f];clear f;unfold aP;go_enter func197,ntmps197;go_wp2;rw[<-z.o];go_loopw [5,8] (fun _ i wr=>∃k:Nat,k<=l.length/\i=.int .i64 k/\Hid (∀i (hi:i<l.length),i<k->d l[i]=false)/\Hid (Below w1.heap.size w1 wr)) (fun _ i _=>l.length - (intOf i).toNat)
 case atStart=>exact BC
 case round=>
  obtain⟨k,E,rfl,HR,HB⟩:=hrel;by_cases q:k<l.length
  .have hk1:(k:Int)<(l.length:Int):=qo;obtain⟨b,off,r,rfl,_,D,⟨rfl,A⟩,e⟩:=aH.at dA (o.o.on dA HB.o) q qe;have C:=e 0 _ rfl;have G:=e 1 _ rfl;rw[Nat.add_zero] at C;have n:=qK m HB.o;obtain⟨⟨H,I⟩,_⟩:=fJ n.o;have J:=aD n.o;have p:=Hd x l[k];have HL:Hid (∀g,d l[k]=g->((if g=true then eU d l=(k:Int) else ∀i (hi:i<l.length),i<k+1->d l[i]=false):Prop)):=aA (fun g hg=>by
    cases g
    .exact Wr
    .rw[iP rfl];exact IM q HR.o hg)
   have s:d l[k]=decide (x=l[k]):=by rw[t.o]
   rw[<-s] at p;clear HR e A s;generalize B:l[k]=y at *;generalize d y=g at *;clear B;go_wp2;go_quiet (fail)
   have HB':=aA (fI HB.o ⟨nq,rfl⟩);clear p
   cases g
   .exact Ws
   .exact QCd
  .exact QBK
theorem QL{ok:nP}(v:Value)(l:List wV)(x:wV)(w:World)(h:aH qT w ok v l):Calls prog 156 #[v,.agg #[.string x.1,.string x.2]] w (aP (.bool (l.any (fun y=>decide (x=y)))) w):=by
 have HB0:=aA (aB w (.cells #[.string x.1,.string x.2] 170));have HI:=aA (Bz v l x _ (h.on dA HB0.o));have HA:=aA (sW (fun y=>decide (x=y)) l);obtain⟨a,c,rfl,b⟩:=h.slice;unfold aP at *;generalize eU (fun y=>decide (x=y)) l=n at *;clear h;go_enter func156,ntmps156;exact QCf
theorem QBT{p:Prop}(h:p:=by
 exact⟨rfl,((HB1.o.setCell (show w.heap.size<=w.heap.size+1+1 by omega) _).setCell (show w.heap.size<=w.heap.size+1+1 by omega) _).setCell (show w.heap.size<=w.heap.size+1+1 by omega) _⟩):p:=h
theorem aCl{w:World}{g:Nat}{a0:Value}{t:TypeId}(h:w.heap[g]? =some (.cells #[a0] t (0,0))):(w.cell? ⟨g,0,none⟩=some a0)/\w.frozen? ⟨g,0,none⟩=false:=⟨aQ h 0 _ rfl,aR h 0⟩
theorem bS{w:World}{g:Nat}{a0 a a2 a3 a4 a5 d e f a9 b c a12:Value}{t:TypeId}(h:w.heap[g]? =some (.cells #[a0,a,a2,a3,a4,a5,d,e,f,a9,b,c,a12] t (0,0))):(w.cell? ⟨g,0,none⟩=some a0/\w.cell? ⟨g,1,none⟩=some a/\w.cell? ⟨g,2,none⟩=some a2/\w.cell? ⟨g,3,none⟩=some a3/\w.cell? ⟨g,4,none⟩=some a4/\w.cell? ⟨g,5,none⟩=some a5/\w.cell? ⟨g,6,none⟩=some d/\w.cell? ⟨g,7,none⟩=some e/\w.cell? ⟨g,8,none⟩=some f/\w.cell? ⟨g,9,none⟩=some a9/\w.cell? ⟨g,10,none⟩=some b/\w.cell? ⟨g,11,none⟩=some c/\w.cell? ⟨g,12,none⟩=some a12)/\w.frozen? ⟨g,0,none⟩=false/\w.frozen? ⟨g,1,none⟩=false/\w.frozen? ⟨g,2,none⟩=false/\w.frozen? ⟨g,3,none⟩=false/\w.frozen? ⟨g,4,none⟩=false/\w.frozen? ⟨g,5,none⟩=false/\w.frozen? ⟨g,6,none⟩=false/\w.frozen? ⟨g,7,none⟩=false/\w.frozen? ⟨g,8,none⟩=false/\w.frozen? ⟨g,9,none⟩=false/\w.frozen? ⟨g,10,none⟩=false/\w.frozen? ⟨g,11,none⟩=false/\w.frozen? ⟨g,12,none⟩=false:=⟨⟨aQ h 0 _ rfl,aQ h 1 _ rfl,aQ h 2 _ rfl,aQ h 3 _ rfl,aQ h 4 _ rfl,aQ h 5 _ rfl,aQ h 6 _ rfl,aQ h 7 _ rfl,aQ h 8 _ rfl,aQ h 9 _ rfl,aQ h 10 _ rfl,aQ h 11 _ rfl,aQ h 12 _ rfl⟩,aR h 0,aR h 1,aR h 2,aR h 3,aR h 4,aR h 5,aR h 6,aR h 7,aR h 8,aR h 9,aR h 10,aR h 11,aR h 12⟩
theorem OE(s:Sto)(N:bY):(eU (fun x=>gR N x.id) s.aCK= -1/\aW s N=(s.aCK.length,false))\/∃(k:Nat) (a:k<s.aCK.length),eU (fun x=>gR N x.id) s.aCK=(k:Int)/\aW s N=(k,decide (s.aCK[k].id=N)):=by
 by_cases h:s.aCK.findIdx (fun x=>gR N x.id)<s.aCK.length
 .refine .inr ⟨_,h,by unfold eU;rw[iP h],?_⟩;unfold aW;dsimp only;rw[iP h,gE h];simp
 .refine .inl ⟨by unfold eU;rw[iN h],?_⟩;unfold aW;dsimp only;rw[iN h]
theorem ER(s:Sto)(N:bY):(eT s N=none/\(aW s N).2=false)\/∃(k:Nat) (a:k<s.aCK.length),aW s N=(k,true)/\eT s N=some s.aCK[k]:=by
 rcases OE s N with ⟨_,h⟩|⟨k,a,_,h⟩
 .exact .inl ⟨by unfold eT;rw[h];rfl,by rw[h]⟩
 .by_cases b:s.aCK[k].id=N
  .rw[dX b] at h;exact .inr ⟨k,a,h,by unfold eT;rw[h];simp[a]⟩
  .rw[dF b] at h;exact .inl ⟨by unfold eT;rw[h];rfl,by rw[h]⟩
theorem eZ.sl{w:World}{ok:nP}{s:Sto}{vc vr vn vo vt vu vk vb:Value}(h:eZ w ok s vc vr vn vo vt vu vk vb):∃c d ra rc g i j k l m n o e f a b,vc=.slice c s.aCK.length d/\s.aCK.length<=1000000/\vr=.slice ra s.aCO.length rc/\s.aCO.length<=1000000/\vn=.slice g s.aCS.length i/\s.aCS.length<=1000000/\vo=.slice j s.aCX.length k/\s.aCX.length<=1000000/\vt=.slice l s.aCL.aCU.length m/\s.aCL.aCU.length<=1000000/\vu=.slice n s.aCL.aCM.length o/\s.aCL.aCM.length<=1000000/\vk=.slice e s.aCL.aCY.length f/\s.aCL.aCY.length<=1000000/\vb=.slice a s.aCL.aC0.length b/\s.aCL.aC0.length<=1000000:=by
 obtain⟨c,d,rfl,b0⟩:=h.aCK.slice;obtain⟨ra,rc,rfl,b1⟩:=h.aCO.slice;obtain⟨g,i,rfl,b2⟩:=h.aCS.slice;obtain⟨j,k,rfl,p⟩:=h.aCX.slice;obtain⟨l,m,rfl,q⟩:=h.aCL.2.2.1.slice;obtain⟨n,o,rfl,b5⟩:=h.aCL.2.2.2.1.slice;obtain⟨e,f,rfl,b6⟩:=h.aCL.2.2.2.2.1.slice;obtain⟨a,b,rfl,b7⟩:=h.aCL.2.2.2.2.2.slice;exact⟨c,d,ra,rc,g,i,j,k,l,m,n,o,e,f,a,b,rfl,b0,rfl,b1,rfl,b2,rfl,p,rfl,q,rfl,b5,rfl,b6,rfl,b7⟩
abbrev fS(s:Sto)(a:oD)(b:Nat)(j:oD)(k:Nat)(l:oD)(m:Nat)(n:oD)(o:Nat)(p:oD)(q:Nat)(c:oD)(d:Nat)(e:oD)(f:Nat)(g:oD)(i:Nat):Array Value:=#[.int .i64 s.aCR,.slice a s.aCK.length b,.slice j s.aCO.length k,.slice l s.aCS.length m,.slice n s.aCX.length o,.string s.aCL.id,.bool s.aCL.set,.int .i64 s.aCL.alg,.slice p s.aCL.aCU.length q,.slice c s.aCL.aCM.length d,.slice e s.aCL.aCY.length f,.slice g s.aCL.aC0.length i,.int .i64 s.aCW]
theorem IP{ok:nP}(s:Sto)(vc vr vn vo vt vu vk vb:Value)(N:bY)(w:World)(h:eZ w ok s vc vr vn vo vt vu vk vb):Calls prog 90 #[.agg (aV s vc vr vn vo vt vu vk vb),.string N] w (aP (.tuple #[.int .i64 ((aW s N).1:Nat),.bool (aW s N).2]) w):=by
 obtain⟨q,t,ra,rc,E,G,H,I,J,K,L,M,C,D,o,p,rfl,_,rfl,_,rfl,_,rfl,_,rfl,_,rfl,_,rfl,_,rfl,_⟩:=h.sl;obtain⟨W0,c⟩:=xE ((w.alloc (.cells (fS s q t ra rc E G H I J K L M C D o p) 40)).alloc (.cells #[.string N] 9));have f:Hid (Below w.heap.size w W0):=aA (by rw[c];exact aC (aB _ _) (aB _ _));have A:Hid (W0.heap[w.heap.size]? =some (.cells (fS s q t ra rc E G H I J K L M C D o p) 40 (0,0))):=aA (by rw[c];exact aE (aK _ _ _ rfl) (aB _ _));have B:Hid (W0.heap[w.heap.size+1]? =some (.cells #[.string N] 9 (0,0))):=aA (by rw[c];exact aK _ _ _ qs);obtain⟨R,m,l,d⟩:=dD c (XG _ s.aCK N (w.heap.size+1) W0 (aH.on dK h.aCK f.o) ⟨aQ B.o 0 _ rfl,aD B.o⟩) (aH.on dK h.aCK f.o) (OE s N);obtain⟨F,v⟩:∃F,aW s N=F:=⟨_,rfl⟩;rw[v] at d ⊢;unfold aP aV at *;generalize eU (fun x=>gR N x.id) s.aCK=n at *;clear h c v;go_enter func90,ntmps90;go_wp2_with fail;rw[<-R.o];refine m.o.mono ?_;rintro e w1 ⟨rfl,a⟩;have j:=qB f a;have P:=aA (l.o.on dK a);replace A:=qK A a;obtain⟨⟨V,W,A2,A3,A4,A5,A6,A7,A8,A9,X,Y,Z⟩,_⟩:=bS A.o;have zA:=aD A.o;replace B:=qK B a;obtain⟨B0,_⟩:=aCl B.o;have zB:=aD B.o;clear a m l
 rcases d.o with ⟨g,i⟩|⟨k,T,g,i⟩
 .subst g i;clear d;go_wp2;go_returns;exact⟨rfl,j.o⟩
 .subst g i;obtain⟨b,off,r,rfl,_,ab,⟨vf,vl,rfl,S⟩,z⟩:=aH.at dK P.o T qe;have U:=z 0 _ rfl;rw[Nat.add_zero] at U;have ae:(k:Int)<(s.aCK.length:Int):=qo;have ad:¬(k:Int)<0:=qo;clear d z S;generalize y:s.aCK[k].id=aa at *;have Q:=aA y;clear y;go_wp2;go_quiet (fail)
  have O:=aA (fI j.o ⟨nq,rfl⟩);go_wp2;go_returns;exact⟨by rw[Q.o,<-jD];rfl,O.o⟩
theorem IQ{ok:nP}(s:Sto)(vc vr vn vo vt vu vk vb:Value)(N M:bY)(w:World)(h:eZ w ok s vc vr vn vo vt vu vk vb):Calls prog 93 #[.agg (aV s vc vr vn vo vt vu vk vb),.string N,.string M] w (aP (.bool (rS s N M)) w):=by
 obtain⟨d,f,ra,rc,j,k,l,m,o,p,q,r,g,i,b,c,rfl,_,rfl,_,rfl,_,rfl,_,rfl,_,rfl,_,rfl,_,rfl,_⟩:=h.sl;obtain⟨W0,a⟩:=xE (w.alloc (.cells (fS s d f ra rc j k l m o p q r g i b c) 40));have HB0:Hid (Below w.heap.size w W0):=aA (by rw[a];exact aB _ _);have A:Hid (W0.heap[w.heap.size]? =some (.cells (fS s d f ra rc j k l m o p q r g i b c) 40 (0,0))):=aA (by rw[a];exact aK _ _ _ rfl);have t:=aA a;have HI:=aA (QL _ s.aCX (N,M) W0 (aH.on dA h.aCX HB0.o));have e:rS s N M=s.aCX.any (fun y=>decide ((N,M)=y)):=by unfold rS;congr 1;funext y;rw[Bool.eq_iff_iff];simp[eq_comm]
 rw[e];unfold aP aV at *;generalize s.aCX.any (fun y=>decide ((N,M)=y))=n at *;dsimp only at HI;clear h a e;obtain⟨⟨a0,v,a2,a3,a4,a5,B,C,D,a9,x,z,a12⟩,_⟩:=bS A.o;go_enter func93,ntmps93;go_wp2_with fail;rw[<-t.o];exact Rr
theorem Ca(c:cF)(N:bY):(eU (fun x:pQ=>decide (x.1=N)) c.aCP= -1/\gI c N=bD)\/∃(k:Nat) (b:k<c.aCP.length),eU (fun x:pQ=>decide (x.1=N)) c.aCP=(k:Int)/\gI c N=c.aCP[k].2:=by
 have a:c.aCP.find? (fun f=>decide (f.1=N))=c.aCP[c.aCP.findIdx (fun f=>decide (f.1=N))]? :=List.find?_eq_getElem?_findIdx;by_cases h:c.aCP.findIdx (fun x=>decide (x.1=N))<c.aCP.length
 .refine .inr ⟨_,h,by unfold eU;rw[iP h],?_⟩;unfold gI;rw[a,gE h];rfl
 .refine .inl ⟨by unfold eU;rw[iN h],?_⟩;unfold gI;rw[a,List.getElem?_eq_none qo];rfl
abbrev oW(c:cF)(a:oD)(b:Nat)(d:oD)(e:Nat):Array Value:=#[.string c.id,.string c.aDb,.string c.aC5,.slice a c.aCP.length b,.slice d c.log.length e]
theorem JY{ok:nP}(c:cF)(y z:Value)(N:bY)(w:World)(h:oT w ok c y z):Calls prog 60 #[.agg #[.string c.id,.string c.aDb,.string c.aC5,y,z],.string N] w (aP (dB (gI c N)) w):=by
 obtain⟨p,q,rfl,_⟩:=h.2.2.2.1.slice;obtain⟨la,lc,rfl,_⟩:=h.2.2.2.2.slice;obtain⟨W0,a⟩:=xE (((w.alloc (.cells (oW c p q la lc) 52)).alloc (.cells #[.string N] 9)).alloc (.cells fU 44));have i:Hid (Below w.heap.size w W0):=aA (by rw[a];exact aC (aC (aB _ _) (aB _ _)) (aB _ _));have A:Hid (W0.heap[w.heap.size]? =some (.cells (oW c p q la lc) 52 (0,0))):=aA (by rw[a];exact aE (aE (aK _ _ _ rfl) (aB _ _)) (aB _ _));have B:Hid (W0.heap[w.heap.size+1]? =some (.cells #[.string N] 9 (0,0))):=aA (by rw[a];exact aE (aK _ _ _ qs) (aB _ _));have R:Hid (W0.heap[w.heap.size+1+1]? =some (.cells fU 44 (0,0))):=aA (by rw[a];exact aK _ _ _ qs);obtain⟨E,o,m,f⟩:=dD a (TF _ c.aCP N (w.heap.size+1) W0 (aH.on bP h.2.2.2.1 i.o) ⟨aQ B.o 0 _ rfl,aD B.o⟩) (aH.on bP h.2.2.2.1 i.o) (Ca c N);obtain⟨F,s⟩:∃F,gI c N=F:=⟨_,rfl⟩;rw[s] at f ⊢;unfold aP at *;generalize eU (fun x:pQ=>decide (x.1=N)) c.aCP=n at *;clear h a s;go_enter func60,ntmps60;go_wp2_with fail;rw[<-E.o];refine o.o.mono ?_;rintro e w1 ⟨rfl,d⟩;have HB1:=qB i d;have C:=aA (m.o.on bP d);replace A:=qK A d;obtain⟨⟨L,M,O,P,Q⟩,_⟩:=dJ A.o;have Y:=aD A.o;replace R:=qK R d;obtain⟨⟨S,T,U⟩,_⟩:=cD R.o;have Z:=aD R.o;have f0:=aR R.o 0;have f1:=aR R.o 1;have f2:=aR R.o 2;clear d o m
 rcases f.o with ⟨j,l⟩|⟨k,H,j,l⟩
 .subst j l;clear f;go_wp2;refine bR (.agg #[.int .i64 0,.int .i64 0,.string ⟨#[]⟩]) ?_;exact QBT
 .subst j l;obtain⟨b,off,r,rfl,_,V,⟨rfl,G⟩,g⟩:=aH.at bP C.o H qe;have I:=g 1 _ rfl;have J:=g 2 _ rfl;have K:=g 3 _ rfl;have X:(k:Int)<(c.aCP.length:Int):=qo;have W:decide ((k:Int) ≥ 0)=true:=dX qo;clear f g G;generalize t:c.aCP[k].2=v at *;have D:=aA t;clear t;obtain⟨v1,v2,v3⟩:=v;dsimp only at I J K;go_wp2;refine bR (.agg #[.int .i64 v1,.int .i64 v2,.string v3]) ?_;exact⟨by rw[D.o];rfl,((HB1.o.setCell (show w.heap.size<=w.heap.size+1+1 by omega) _).setCell (show w.heap.size<=w.heap.size+1+1 by omega) _).setCell (show w.heap.size<=w.heap.size+1+1 by omega) _⟩
end Go.Proofs.YtgoanbpcdhmfkaaGreatDoor
