/- Lemmas. -/
import Derived.Test.YtlfngkelmbdehaaGreatDoorMai
namespace Go.Proofs.YtlfngkelmbdehaaGreatDoor
open Go.RowKit
set_option linter.unusedVariables false
set_option linter.unusedSimpArgs false
set_option maxHeartbeats 16000000
open _root_.Go.Proofs.Tryz
set_option maxRecDepth 20000
theorem Bu:dV prog 111 193 3 40:=fO (z:= .agg #[.int .i64 0,.string ByteArray.empty,.string ByteArray.empty]) underlying111 (by kernel_rfl) rfl qe
theorem wT:dV prog 110 161 4 48:=fO (z:= .agg #[.string ByteArray.empty,.int .i64 0,.int .i64 0,.string ByteArray.empty]) underlying110 (by kernel_rfl) rfl qe
theorem zK:dV prog 28 113 5 96:=fO (z:= .agg #[.string ByteArray.empty,.string ByteArray.empty,.string ByteArray.empty,.slice none 0 0,.slice none 0 0]) underlying28 (by kernel_rfl) rfl qe
theorem Rl:dV prog 29 119 7 88:=fO (z:= .agg #[.int .i64 0,.int .i64 0,.string ByteArray.empty,.string ByteArray.empty,.string ByteArray.empty,.string ByteArray.empty,.bool false]) underlying29 (by kernel_rfl) rfl qe
theorem Rm:dV prog 30 189 3 40:=fO (z:= .agg #[.int .i64 0,.string ByteArray.empty,.string ByteArray.empty]) underlying30 (by kernel_rfl) rfl qe
theorem Rn:dV prog 31 122 2 32:=fO (z:= .agg #[.string ByteArray.empty,.string ByteArray.empty]) underlying31 (by kernel_rfl) rfl qe
theorem aB9:dV prog 36 200 3 32:=fO (z:= .agg #[.int .i64 0,.int .i64 0,.string ByteArray.empty]) underlying36 (by kernel_rfl) rfl qe
theorem aCa:dV prog 317 288 7 72:=fO (z:= .agg #[.int .i64 0,.string ByteArray.empty,.bool false,.int .i64 0,.int .i64 0,.int .i64 0,.string ByteArray.empty]) underlying317 (by kernel_rfl) rfl qe
theorem aCb:dV prog 275 301 7 72:=fO (z:= .agg #[.int .i64 0,.int .i64 0,.int .i64 0,.string ByteArray.empty,.int .i64 0,.string ByteArray.empty,.bool false]) underlying275 (by kernel_rfl) rfl qe
theorem aCc:dV prog 34 277 5 96:=fO (z:= .agg #[.string ByteArray.empty,.bool false,.slice none 0 0,.slice none 0 0,.slice none 0 0]) underlying34 (by kernel_rfl) rfl qe
theorem aCd:dV prog 35 38 7 128:=fO (z:= .agg #[.string ByteArray.empty,.bool false,.int .i64 0,.slice none 0 0,.slice none 0 0,.slice none 0 0,.slice none 0 0]) underlying35 (by kernel_rfl) rfl qe
theorem CN{ok:nP}(v:Value)(l:List tS)(w:World)(h:aH mP w ok v l):Calls prog 111 #[v] w (bV mP 3 193 ok l w):=by
 obtain⟨a,c,rfl,n⟩:=h.slice;unfold bV
 rcases a with _|k
 .have B:=kB cC qe h;subst B;have heq:=Lib.run_eql_slice_nil (P:=prog) w 111 193 none 0 c 0 0 underlying111;clear h;go_enter func111,ntmps111;exact AZ
 .obtain⟨D,E,cs,b,h1,h2,_⟩:=h;injection b with b _ z;subst b z;have heq:=Lib.run_eql_slice_nil (P:=prog) w 111 193 (some k) l.length c 0 0 underlying111;have d:Below w.heap.size w (w.alloc (.cells #[] 193)):=(Below.refl _ _).alloc (lR _) _;have g:=aA (World.ownsRow_made (e:=193) w #[] 0 (lR _) (by simp[maxLen]) rfl:(w.alloc (.cells #[] 193)).ownsRow w.heap.size 193 3 (.slice (some ⟨w.heap.size,0,none⟩) 0 0) 0 []);have s:=aA (h2.len (fun _ _ f=>cC.len f));have t:=aA (h2.aDb (fun _ _ f=>cC.one f));obtain⟨y,r,q,j⟩:=dC (h1.lt.below d) h2 d n;clear h1 h2 d n;go_enter func111,ntmps111;go_wp2_with (at_builtin;refine fP Bu rfl (.tmp 5) (.tmp 6) rfl w.heap.size (.slice (some ⟨w.heap.size,0,none⟩) 0 0) 0 [] rfl g.o (some k) l.length c cs rfl s.o (y.o.more qs) t.o (by have:=j.o;unfold maxLen;omega) (qA j.o) qs ?_;intro C c1 w1 p m A;have i:=aA (dU g.o q.o m (lR _) qs);have x:=aA p;clear p m A)
  go_returns;have o:=x.o;simp only[Nat.zero_add,List.nil_append] at o ⊢;exact⟨_,rfl,lF cC r.o i.o o,i.o⟩
theorem TB{ok:nP}(v:Value)(l:List pO)(w:World)(h:aH lC w ok v l):Calls prog 144 #[v] w (bV lC 4 161 ok l w):=by
 obtain⟨a,c,rfl,n⟩:=h.slice;unfold bV
 rcases a with _|k
 .have B:=kB bP qe h;subst B;have heq:=Lib.run_eql_slice_nil (P:=prog) w 110 161 none 0 c 0 0 underlying110;clear h;go_enter func144,ntmps144;exact AZ
 .obtain⟨D,E,cs,b,h1,h2,_⟩:=h;injection b with b _ z;subst b z;have heq:=Lib.run_eql_slice_nil (P:=prog) w 110 161 (some k) l.length c 0 0 underlying110;have d:Below w.heap.size w (w.alloc (.cells #[] 161)):=(Below.refl _ _).alloc (lR _) _;have g:=aA (World.ownsRow_made (e:=161) w #[] 0 (lR _) (by simp[maxLen]) rfl:(w.alloc (.cells #[] 161)).ownsRow w.heap.size 161 4 (.slice (some ⟨w.heap.size,0,none⟩) 0 0) 0 []);have s:=aA (h2.len (fun _ _ f=>bP.len f));have t:=aA (h2.aDb (fun _ _ f=>bP.one f));obtain⟨y,r,q,j⟩:=dC (h1.lt.below d) h2 d n;clear h1 h2 d n;go_enter func144,ntmps144;go_wp2_with (at_builtin;refine fP wT rfl (.tmp 5) (.tmp 6) rfl w.heap.size (.slice (some ⟨w.heap.size,0,none⟩) 0 0) 0 [] rfl g.o (some k) l.length c cs rfl s.o (y.o.more qs) t.o (by have:=j.o;unfold maxLen;omega) (qA j.o) qs ?_;intro C c1 w1 p m A;have i:=aA (dU g.o q.o m (lR _) qs);have x:=aA p;clear p m A)
  go_returns;have o:=x.o;simp only[Nat.zero_add,List.nil_append] at o ⊢;exact⟨_,rfl,lF bP r.o i.o o,i.o⟩
theorem CP{ok:nP}(v:Value)(l:List cF)(w:World)(h:aH pU w ok v l):Calls prog 110 #[v] w (bV pU 5 113 ok l w):=by
 obtain⟨a,c,rfl,n⟩:=h.slice;unfold bV
 rcases a with _|k
 .have B:=kB dS qe h;subst B;have heq:=Lib.run_eql_slice_nil (P:=prog) w 28 113 none 0 c 0 0 underlying28;clear h;go_enter func110,ntmps110;exact AZ
 .obtain⟨D,E,cs,b,h1,h2,_⟩:=h;injection b with b _ z;subst b z;have heq:=Lib.run_eql_slice_nil (P:=prog) w 28 113 (some k) l.length c 0 0 underlying28;have d:Below w.heap.size w (w.alloc (.cells #[] 113)):=(Below.refl _ _).alloc (lR _) _;have g:=aA (World.ownsRow_made (e:=113) w #[] 0 (lR _) (by simp[maxLen]) rfl:(w.alloc (.cells #[] 113)).ownsRow w.heap.size 113 5 (.slice (some ⟨w.heap.size,0,none⟩) 0 0) 0 []);have s:=aA (h2.len (fun _ _ f=>dS.len f));have t:=aA (h2.aDb (fun _ _ f=>dS.one f));obtain⟨y,r,q,j⟩:=dC (h1.lt.below d) h2 d n;clear h1 h2 d n;go_enter func110,ntmps110;go_wp2_with (at_builtin;refine fP zK rfl (.tmp 5) (.tmp 6) rfl w.heap.size (.slice (some ⟨w.heap.size,0,none⟩) 0 0) 0 [] rfl g.o (some k) l.length c cs rfl s.o (y.o.more qs) t.o (by have:=j.o;unfold maxLen;omega) (qA j.o) qs ?_;intro C c1 w1 p m A;have i:=aA (dU g.o q.o m (lR _) qs);have x:=aA p;clear p m A)
  go_returns;have o:=x.o;simp only[Nat.zero_add,List.nil_append] at o ⊢;exact⟨_,rfl,lF dS r.o i.o o,i.o⟩
theorem CQ{ok:nP}(v:Value)(l:List vQ)(w:World)(h:aH sQ w ok v l):Calls prog 108 #[v] w (bV sQ 7 119 ok l w):=by
 obtain⟨a,c,rfl,n⟩:=h.slice;unfold bV
 rcases a with _|k
 .have B:=kB cS qe h;subst B;have heq:=Lib.run_eql_slice_nil (P:=prog) w 29 119 none 0 c 0 0 underlying29;clear h;go_enter func108,ntmps108;exact AZ
 .obtain⟨D,E,cs,b,h1,h2,_⟩:=h;injection b with b _ z;subst b z;have heq:=Lib.run_eql_slice_nil (P:=prog) w 29 119 (some k) l.length c 0 0 underlying29;have d:Below w.heap.size w (w.alloc (.cells #[] 119)):=(Below.refl _ _).alloc (lR _) _;have g:=aA (World.ownsRow_made (e:=119) w #[] 0 (lR _) (by simp[maxLen]) rfl:(w.alloc (.cells #[] 119)).ownsRow w.heap.size 119 7 (.slice (some ⟨w.heap.size,0,none⟩) 0 0) 0 []);have s:=aA (h2.len (fun _ _ f=>cS.len f));have t:=aA (h2.aDb (fun _ _ f=>cS.one f));obtain⟨y,r,q,j⟩:=dC (h1.lt.below d) h2 d n;clear h1 h2 d n;go_enter func108,ntmps108;go_wp2_with (at_builtin;refine fP Rl rfl (.tmp 5) (.tmp 6) rfl w.heap.size (.slice (some ⟨w.heap.size,0,none⟩) 0 0) 0 [] rfl g.o (some k) l.length c cs rfl s.o (y.o.more qs) t.o (by have:=j.o;unfold maxLen;omega) (qA j.o) qs ?_;intro C c1 w1 p m A;have i:=aA (dU g.o q.o m (lR _) qs);have x:=aA p;clear p m A)
  go_returns;have o:=x.o;simp only[Nat.zero_add,List.nil_append] at o ⊢;exact⟨_,rfl,lF cS r.o i.o o,i.o⟩
theorem CR{ok:nP}(v:Value)(l:List xL)(w:World)(h:aH vR w ok v l):Calls prog 109 #[v] w (bV vR 3 189 ok l w):=by
 obtain⟨a,c,rfl,n⟩:=h.slice;unfold bV
 rcases a with _|k
 .have B:=kB dZ qe h;subst B;have heq:=Lib.run_eql_slice_nil (P:=prog) w 30 189 none 0 c 0 0 underlying30;clear h;go_enter func109,ntmps109;exact AZ
 .obtain⟨D,E,cs,b,h1,h2,_⟩:=h;injection b with b _ z;subst b z;have heq:=Lib.run_eql_slice_nil (P:=prog) w 30 189 (some k) l.length c 0 0 underlying30;have d:Below w.heap.size w (w.alloc (.cells #[] 189)):=(Below.refl _ _).alloc (lR _) _;have g:=aA (World.ownsRow_made (e:=189) w #[] 0 (lR _) (by simp[maxLen]) rfl:(w.alloc (.cells #[] 189)).ownsRow w.heap.size 189 3 (.slice (some ⟨w.heap.size,0,none⟩) 0 0) 0 []);have s:=aA (h2.len (fun _ _ f=>dZ.len f));have t:=aA (h2.aDb (fun _ _ f=>dZ.one f));obtain⟨y,r,q,j⟩:=dC (h1.lt.below d) h2 d n;clear h1 h2 d n;go_enter func109,ntmps109;go_wp2_with (at_builtin;refine fP Rm rfl (.tmp 5) (.tmp 6) rfl w.heap.size (.slice (some ⟨w.heap.size,0,none⟩) 0 0) 0 [] rfl g.o (some k) l.length c cs rfl s.o (y.o.more qs) t.o (by have:=j.o;unfold maxLen;omega) (qA j.o) qs ?_;intro C c1 w1 p m A;have i:=aA (dU g.o q.o m (lR _) qs);have x:=aA p;clear p m A)
  go_returns;have o:=x.o;simp only[Nat.zero_add,List.nil_append] at o ⊢;exact⟨_,rfl,lF dZ r.o i.o o,i.o⟩
theorem TC{ok:nP}(v:Value)(l:List wQ)(w:World)(h:aH qQ w ok v l):Calls prog 164 #[v] w (bV qQ 2 122 ok l w):=by
 obtain⟨a,c,rfl,n⟩:=h.slice;unfold bV
 rcases a with _|k
 .have B:=kB cZ qe h;subst B;have heq:=Lib.run_eql_slice_nil (P:=prog) w 31 122 none 0 c 0 0 underlying31;clear h;go_enter func164,ntmps164;exact AZ
 .obtain⟨D,E,cs,b,h1,h2,_⟩:=h;injection b with b _ z;subst b z;have heq:=Lib.run_eql_slice_nil (P:=prog) w 31 122 (some k) l.length c 0 0 underlying31;have d:Below w.heap.size w (w.alloc (.cells #[] 122)):=(Below.refl _ _).alloc (lR _) _;have g:=aA (World.ownsRow_made (e:=122) w #[] 0 (lR _) (by simp[maxLen]) rfl:(w.alloc (.cells #[] 122)).ownsRow w.heap.size 122 2 (.slice (some ⟨w.heap.size,0,none⟩) 0 0) 0 []);have s:=aA (h2.len (fun _ _ f=>cZ.len f));have t:=aA (h2.aDb (fun _ _ f=>cZ.one f));obtain⟨y,r,q,j⟩:=dC (h1.lt.below d) h2 d n;clear h1 h2 d n;go_enter func164,ntmps164;go_wp2_with (at_builtin;refine fP Rn rfl (.tmp 5) (.tmp 6) rfl w.heap.size (.slice (some ⟨w.heap.size,0,none⟩) 0 0) 0 [] rfl g.o (some k) l.length c cs rfl s.o (y.o.more qs) t.o (by have:=j.o;unfold maxLen;omega) (qA j.o) qs ?_;intro C c1 w1 p m A;have i:=aA (dU g.o q.o m (lR _) qs);have x:=aA p;clear p m A)
  go_returns;have o:=x.o;simp only[Nat.zero_add,List.nil_append] at o ⊢;exact⟨_,rfl,lF cZ r.o i.o o,i.o⟩
theorem FO{ok:nP}(v:Value)(l:List Ob)(w:World)(h:aH jT w ok v l):Calls prog 207 #[v] w (bV jT 3 200 ok l w):=by
 obtain⟨a,c,rfl,n⟩:=h.slice;unfold bV
 rcases a with _|k
 .have B:=kB aO qe h;subst B;have heq:=Lib.run_eql_slice_nil (P:=prog) w 36 200 none 0 c 0 0 underlying36;clear h;go_enter func207,ntmps207;exact AZ
 .obtain⟨D,E,cs,b,h1,h2,_⟩:=h;injection b with b _ z;subst b z;have heq:=Lib.run_eql_slice_nil (P:=prog) w 36 200 (some k) l.length c 0 0 underlying36;have d:Below w.heap.size w (w.alloc (.cells #[] 200)):=(Below.refl _ _).alloc (lR _) _;have g:=aA (World.ownsRow_made (e:=200) w #[] 0 (lR _) (by simp[maxLen]) rfl:(w.alloc (.cells #[] 200)).ownsRow w.heap.size 200 3 (.slice (some ⟨w.heap.size,0,none⟩) 0 0) 0 []);have s:=aA (h2.len (fun _ _ f=>aO.len f));have t:=aA (h2.aDb (fun _ _ f=>aO.one f));obtain⟨y,r,q,j⟩:=dC (h1.lt.below d) h2 d n;clear h1 h2 d n;go_enter func207,ntmps207;go_wp2_with (at_builtin;refine fP aB9 rfl (.tmp 5) (.tmp 6) rfl w.heap.size (.slice (some ⟨w.heap.size,0,none⟩) 0 0) 0 [] rfl g.o (some k) l.length c cs rfl s.o (y.o.more qs) t.o (by have:=j.o;unfold maxLen;omega) (qA j.o) qs ?_;intro C c1 w1 p m A;have i:=aA (dU g.o q.o m (lR _) qs);have x:=aA p;clear p m A)
  go_returns;have o:=x.o;simp only[Nat.zero_add,List.nil_append] at o ⊢;exact⟨_,rfl,lF aO r.o i.o o,i.o⟩
theorem XC{ok:nP}(v:Value)(l:List Ma)(w:World)(h:aH rK w ok v l):Calls prog 240 #[v] w (bV rK 7 288 ok l w):=by
 obtain⟨a,c,rfl,n⟩:=h.slice;unfold bV
 rcases a with _|k
 .have B:=kB eN qe h;subst B;have heq:=Lib.run_eql_slice_nil (P:=prog) w 317 288 none 0 c 0 0 underlying317;clear h;go_enter func240,ntmps240;exact AZ
 .obtain⟨D,E,cs,b,h1,h2,_⟩:=h;injection b with b _ z;subst b z;have heq:=Lib.run_eql_slice_nil (P:=prog) w 317 288 (some k) l.length c 0 0 underlying317;have d:Below w.heap.size w (w.alloc (.cells #[] 288)):=(Below.refl _ _).alloc (lR _) _;have g:=aA (World.ownsRow_made (e:=288) w #[] 0 (lR _) (by simp[maxLen]) rfl:(w.alloc (.cells #[] 288)).ownsRow w.heap.size 288 7 (.slice (some ⟨w.heap.size,0,none⟩) 0 0) 0 []);have s:=aA (h2.len (fun _ _ f=>eN.len f));have t:=aA (h2.aDb (fun _ _ f=>eN.one f));obtain⟨y,r,q,j⟩:=dC (h1.lt.below d) h2 d n;clear h1 h2 d n;go_enter func240,ntmps240;go_wp2_with (at_builtin;refine fP aCa rfl (.tmp 5) (.tmp 6) rfl w.heap.size (.slice (some ⟨w.heap.size,0,none⟩) 0 0) 0 [] rfl g.o (some k) l.length c cs rfl s.o (y.o.more qs) t.o (by have:=j.o;unfold maxLen;omega) (qA j.o) qs ?_;intro C c1 w1 p m A;have i:=aA (dU g.o q.o m (lR _) qs);have x:=aA p;clear p m A)
  go_returns;have o:=x.o;simp only[Nat.zero_add,List.nil_append] at o ⊢;exact⟨_,rfl,lF eN r.o i.o o,i.o⟩
theorem XD{ok:nP}(v:Value)(l:List No)(w:World)(h:aH JF w ok v l):Calls prog 210 #[v] w (bV JF 7 301 ok l w):=by
 obtain⟨a,c,rfl,n⟩:=h.slice;unfold bV
 rcases a with _|k
 .have B:=kB dO qe h;subst B;have heq:=Lib.run_eql_slice_nil (P:=prog) w 275 301 none 0 c 0 0 underlying275;clear h;go_enter func210,ntmps210;exact AZ
 .obtain⟨D,E,cs,b,h1,h2,_⟩:=h;injection b with b _ z;subst b z;have heq:=Lib.run_eql_slice_nil (P:=prog) w 275 301 (some k) l.length c 0 0 underlying275;have d:Below w.heap.size w (w.alloc (.cells #[] 301)):=(Below.refl _ _).alloc (lR _) _;have g:=aA (World.ownsRow_made (e:=301) w #[] 0 (lR _) (by simp[maxLen]) rfl:(w.alloc (.cells #[] 301)).ownsRow w.heap.size 301 7 (.slice (some ⟨w.heap.size,0,none⟩) 0 0) 0 []);have s:=aA (h2.len (fun _ _ f=>dO.len f));have t:=aA (h2.aDb (fun _ _ f=>dO.one f));obtain⟨y,r,q,j⟩:=dC (h1.lt.below d) h2 d n;clear h1 h2 d n;go_enter func210,ntmps210;go_wp2_with (at_builtin;refine fP aCb rfl (.tmp 5) (.tmp 6) rfl w.heap.size (.slice (some ⟨w.heap.size,0,none⟩) 0 0) 0 [] rfl g.o (some k) l.length c cs rfl s.o (y.o.more qs) t.o (by have:=j.o;unfold maxLen;omega) (qA j.o) qs ?_;intro C c1 w1 p m A;have i:=aA (dU g.o q.o m (lR _) qs);have x:=aA p;clear p m A)
  go_returns;have o:=x.o;simp only[Nat.zero_add,List.nil_append] at o ⊢;exact⟨_,rfl,lF dO r.o i.o o,i.o⟩
theorem XE{ok:nP}(v:Value)(l:List Ru)(w:World)(h:aH yB w ok v l):Calls prog 208 #[v] w (bV yB 5 277 ok l w):=by
 obtain⟨a,c,rfl,n⟩:=h.slice;unfold bV
 rcases a with _|k
 .have B:=kB bM qe h;subst B;have heq:=Lib.run_eql_slice_nil (P:=prog) w 34 277 none 0 c 0 0 underlying34;clear h;go_enter func208,ntmps208;exact AZ
 .obtain⟨D,E,cs,b,h1,h2,_⟩:=h;injection b with b _ z;subst b z;have heq:=Lib.run_eql_slice_nil (P:=prog) w 34 277 (some k) l.length c 0 0 underlying34;have d:Below w.heap.size w (w.alloc (.cells #[] 277)):=(Below.refl _ _).alloc (lR _) _;have g:=aA (World.ownsRow_made (e:=277) w #[] 0 (lR _) (by simp[maxLen]) rfl:(w.alloc (.cells #[] 277)).ownsRow w.heap.size 277 5 (.slice (some ⟨w.heap.size,0,none⟩) 0 0) 0 []);have s:=aA (h2.len (fun _ _ f=>bM.len f));have t:=aA (h2.aDb (fun _ _ f=>bM.one f));obtain⟨y,r,q,j⟩:=dC (h1.lt.below d) h2 d n;clear h1 h2 d n;go_enter func208,ntmps208;go_wp2_with (at_builtin;refine fP aCc rfl (.tmp 5) (.tmp 6) rfl w.heap.size (.slice (some ⟨w.heap.size,0,none⟩) 0 0) 0 [] rfl g.o (some k) l.length c cs rfl s.o (y.o.more qs) t.o (by have:=j.o;unfold maxLen;omega) (qA j.o) qs ?_;intro C c1 w1 p m A;have i:=aA (dU g.o q.o m (lR _) qs);have x:=aA p;clear p m A)
  go_returns;have o:=x.o;simp only[Nat.zero_add,List.nil_append] at o ⊢;exact⟨_,rfl,lF bM r.o i.o o,i.o⟩
theorem XF{n:Nat}{ok:nP}(v:Value)(l:List Po)(w:World)(h:aH (pX n) w ok v l):Calls prog 209 #[v] w (bV (pX n) 7 38 ok l w):=by
 obtain⟨a,c,rfl,o⟩:=h.slice;unfold bV
 rcases a with _|k
 .have C:=kB (bB n) qe h;subst C;have heq:=Lib.run_eql_slice_nil (P:=prog) w 35 38 none 0 c 0 0 underlying35;clear h;go_enter func209,ntmps209;exact AZ
 .obtain⟨E,F,cs,b,h1,h2,_⟩:=h;injection b with b _ A;subst b A;have heq:=Lib.run_eql_slice_nil (P:=prog) w 35 38 (some k) l.length c 0 0 underlying35;have d:Below w.heap.size w (w.alloc (.cells #[] 38)):=(Below.refl _ _).alloc (lR _) _;have g:=aA (World.ownsRow_made (e:=38) w #[] 0 (lR _) (by simp[maxLen]) rfl:(w.alloc (.cells #[] 38)).ownsRow w.heap.size 38 7 (.slice (some ⟨w.heap.size,0,none⟩) 0 0) 0 []);have t:=aA (h2.len (fun _ _ f=>(bB n).len f));have x:=aA (h2.aDb (fun _ _ f=>(bB n).one f));obtain⟨z,s,r,j⟩:=dC (h1.lt.below d) h2 d o;clear h1 h2 d o;go_enter func209,ntmps209;go_wp2_with (at_builtin;refine fP aCd rfl (.tmp 5) (.tmp 6) rfl w.heap.size (.slice (some ⟨w.heap.size,0,none⟩) 0 0) 0 [] rfl g.o (some k) l.length c cs rfl t.o (z.o.more qs) x.o (by have:=j.o;unfold maxLen;omega) (qA j.o) qs ?_;intro D c1 w1 q m B;have i:=aA (dU g.o r.o m (lR _) qs);have y:=aA q;clear q m B)
  go_returns;have p:=y.o;simp only[Nat.zero_add,List.nil_append] at p ⊢;exact⟨_,rfl,lF (bB n) s.o i.o p,i.o⟩
theorem Gu(a b:bY):(!Op.bytesLess a.toList b.toList)=gR b a:=by
 rw[vT];unfold gR;by_cases h:a.toList<b.toList
 .rw[dX h,dF (fun k=>k h)];rfl
 .rw[dF h,dX h];rfl
theorem Gw(x:cF)(a la:oD)(b lc:Nat)(p:Nat)(N:bY)(w:World)(hp:iZ w p 0 (.string N)):Calls prog 49 #[.agg #[.string x.id,.string x.aC6,.string x.aCZ,.slice a x.aCJ.length b,.slice la x.log.length lc],.pointer (some ⟨p,0,none⟩)] w (aP (.bool (gR N x.id)) w):=by
 unfold aP;have h1:p≠w.heap.size:=qA hp.2;obtain⟨hp,c⟩:=hp;go_enter func49,ntmps49;go_wp2;go_returns;exact⟨bH (Gu x.id N),aB _ _⟩
theorem Bv(x:pO)(p:Nat)(N:bY)(w:World)(hp:iZ w p 0 (.string N)):Calls prog 86 #[.agg #[.string x.1,.int .i64 x.2.1,.int .i64 x.2.2.1,.string x.2.2.2],.pointer (some ⟨p,0,none⟩)] w (aP (.bool (decide (x.1=N))) w):=by
 unfold aP;have h1:p≠w.heap.size:=qA hp.2;obtain⟨hp,a⟩:=hp;go_enter func86,ntmps86;go_wp2;go_returns;exact⟨bH (jD x.1 N),aB _ _⟩
theorem Bw(x:pO)(p:Nat)(N:bY)(w:World)(hp:iZ w p 0 (.string N)):Calls prog 168 #[.agg #[.string x.1,.int .i64 x.2.1,.int .i64 x.2.2.1,.string x.2.2.2],.pointer (some ⟨p,0,none⟩)] w (aP (.bool (gR N x.1)) w):=by
 unfold aP;have h1:p≠w.heap.size:=qA hp.2;obtain⟨hp,a⟩:=hp;go_enter func168,ntmps168;go_wp2;go_returns;exact⟨bH (Gu x.1 N),aB _ _⟩
theorem Gx(x:tS)(p:Nat)(N:bY)(w:World)(hp:iZ w p 0 (.string N)):Calls prog 204 #[.agg #[.int .i64 x.aCN,.string x.aDd,.string x.aDL],.pointer (some ⟨p,0,none⟩)] w (aP (.bool (decide (x.aDd=N))) w):=by
 unfold aP;have h1:p≠w.heap.size:=qA hp.2;obtain⟨hp,a⟩:=hp;go_enter func204,ntmps204;go_wp2;go_returns;exact⟨bH (jD x.aDd N),aB _ _⟩
theorem Gy(x:cF)(a la:oD)(b lc:Nat)(p:Nat)(N:bY)(w:World)(hp:iZ w p 2 (.string N)):Calls prog 171 #[.agg #[.string x.id,.string x.aC6,.string x.aCZ,.slice a x.aCJ.length b,.slice la x.log.length lc],.pointer (some ⟨p,0,none⟩)] w (aP (.bool (decide (x.id=N))) w):=by
 unfold aP;have h1:p≠w.heap.size:=qA hp.2;obtain⟨hp,c⟩:=hp;go_enter func171,ntmps171;go_wp2;go_returns;exact⟨bH (jD x.id N),aB _ _⟩
theorem Gz(x:cF)(a la:oD)(b lc:Nat)(w:World):Calls prog 120 #[.agg #[.string x.id,.string x.aC6,.string x.aCZ,.slice a x.aCJ.length b,.slice la x.log.length lc]] w (aP (.bool (decide (256<x.log.length))) w):=by
 unfold aP;go_enter func120,ntmps120;go_wp2;go_returns;exact⟨bH (by rw[Bool.eq_iff_iff];simp;omega),aB _ _⟩
theorem Bx(x:Ob)(p:Nat)(N:bY)(w:World)(hp:iZ w p 0 (.string N)):Calls prog 117 #[.agg #[.int .i64 x.on,.int .i64 x.aCF,.string x.arg],.pointer (some ⟨p,0,none⟩)] w (aP (.bool (decide (x.aCF=2)&&decide (x.arg=N))) w):=by
 unfold aP;have h1:p≠w.heap.size:=qA hp.2;obtain⟨hp,e⟩:=hp;obtain⟨f,b,d⟩:=x;dsimp only;go_enter func117,ntmps117;by_cases a:b=2
 .have c:(b==2)=true:=bQ.2 a;go_wp2;go_returns;refine⟨bH ?_,aB _ _⟩;rw[dX a,Bool.true_and];exact jD d N
 .have c:(b==2)=false:=bN.2 a;go_wp2;go_returns;refine⟨bH ?_,aB _ _⟩;rw[dF a];rfl
theorem Ha(x:vQ)(p q:Nat)(N:bY)(T:Int)(w:World)(hp:iZ w p 0 (.string N))(b:iZ w q 0 (.int .i64 T))(e:0<=x.aCN/\x.aCN<=T/\T<=1099511627776):Calls prog 163 #[.agg #[.int .i64 x.id,.int .i64 x.aCN,.string x.aCT,.string x.aCK,.string x.action,.string x.aC2,.bool x.open_],.pointer (some ⟨p,0,none⟩),.pointer (some ⟨q,0,none⟩)] w (aP (.bool (decide (x.aCT=N)&&(x.open_&&decide (100<=T - x.aCN)))) w):=by
 unfold aP;have h1:p≠w.heap.size:=qA hp.2;have h2:q≠w.heap.size:=qA b.2;obtain⟨hp,g⟩:=hp;obtain⟨b,i⟩:=b;obtain⟨j,k,c,l,m,n,f⟩:=x;dsimp only at e ⊢;go_enter func163,ntmps163;by_cases a:c=N
 .have d:(c.toList==N.toList)=true:=by rw[jD];exact dX a
  cases f
  .go_wp2;go_returns;exact⟨bH (by rw[dX a];rfl),aB _ _⟩
  .go_wp2;go_returns;exact⟨bH (by rw[dX a];simp),aB _ _⟩
 .have d:(c.toList==N.toList)=false:=by rw[jD];exact dF a
  go_wp2;go_returns;exact⟨bH (by rw[dF a];rfl),aB _ _⟩
theorem XG{ok:nP}(v:Value)(l:List cF)(N:bY)(p:Nat)(w:World)(h:aH pU w ok v l)(m:iZ w p 0 (.string N)):Calls prog 48 #[v,.func (.func 49) #[] #[.pointer (some ⟨p,0,none⟩)]] w (aP (.int .i64 (eS (fun x=>gR N x.id) l)) w):=by
 obtain⟨a,c,rfl,B⟩:=h.slice;have s:=aA h;have o:=aA (fun wr (t:Below w.heap.size w wr)=>(m.on t:iZ wr p 0 (.string N)));clear h m;obtain⟨PR,d⟩:∃PR:cF->Bool,PR=(fun x=>gR N x.id):=⟨_,rfl⟩;have q:=aA d;rw[<-d];clear d;unfold aP;go_enter func48,ntmps48;go_wp2;go_loopw [5,8] (fun _ i wr=>∃k:Nat,k<=l.length/\i=.int .i64 k/\Hid (∀i (hi:i<l.length),i<k->PR l[i]=false)/\Hid (Below w.heap.size w wr)) (fun _ i _=>l.length - (intOf i).toNat)
 case atStart=>exact AY
 case round=>
  obtain⟨k,A,rfl,HR,HB⟩:=hrel;by_cases hlt:k<l.length
  .have hk1:(k:Int)<(l.length:Int):=qo;obtain⟨b,off,r,rfl,_,z,⟨C,D,rfl,n⟩,hcl⟩:=aH.at dS (s.o.on dS HB.o) hlt qe;obtain⟨f,j,rfl,_⟩:=n.2.2.2.1.slice;obtain⟨la,lc,rfl,_⟩:=n.2.2.2.2.slice;obtain⟨y,E,F,G,H⟩:=JM hcl;rw[Nat.add_zero] at y;have HI:Hid (Calls prog 49 #[.agg #[.string l[k].id,.string l[k].aC6,.string l[k].aCZ,.slice f l[k].aCJ.length j,.slice la l[k].log.length lc],.pointer (some ⟨p,0,none⟩)] wr (aP (.bool (PR l[k])) wr)):=by rw[q.o];exact aA (Gw l[k] f la j lc p N wr (o.o wr HB.o))
   exact JV
  .exact JU
theorem TD{ok:nP}(v:Value)(l:List pO)(N:bY)(p:Nat)(w:World)(h:aH lC w ok v l)(f:iZ w p 0 (.string N)):Calls prog 85 #[v,.func (.func 86) #[] #[.pointer (some ⟨p,0,none⟩)]] w (aP (.int .i64 (eS (fun x=>decide (x.1=N)) l)) w):=by
 obtain⟨a,c,rfl,z⟩:=h.slice;have n:=aA h;have j:=aA (fun wr (o:Below w.heap.size w wr)=>(f.on o:iZ wr p 0 (.string N)));clear h f;obtain⟨PR,d⟩:∃PR:pO->Bool,PR=(fun x=>decide (x.1=N)):=⟨_,rfl⟩;have m:=aA d;rw[<-d];clear d;unfold aP;go_enter func85,ntmps85;go_wp2;go_loopw [5,8] (fun _ i wr=>∃k:Nat,k<=l.length/\i=.int .i64 k/\Hid (∀i (hi:i<l.length),i<k->PR l[i]=false)/\Hid (Below w.heap.size w wr)) (fun _ i _=>l.length - (intOf i).toNat)
 case atStart=>exact AY
 case round=>
  obtain⟨k,y,rfl,HR,HB⟩:=hrel;by_cases hlt:k<l.length
  .have hk1:(k:Int)<(l.length:Int):=qo;obtain⟨b,off,r,rfl,_,s,⟨rfl,t⟩,hcl⟩:=aH.at bP (n.o.on bP HB.o) hlt qe;obtain⟨q,A,B,C⟩:=Fl hcl;rw[Nat.add_zero] at q;have HI:Hid (Calls prog 86 #[.agg #[.string l[k].1,.int .i64 l[k].2.1,.int .i64 l[k].2.2.1,.string l[k].2.2.2],.pointer (some ⟨p,0,none⟩)] wr (aP (.bool (PR l[k])) wr)):=by rw[m.o];exact aA (Bv l[k] p N wr (j.o wr HB.o))
   exact JV
  .exact JU
theorem TE{ok:nP}(v:Value)(l:List pO)(N:bY)(p:Nat)(w:World)(h:aH lC w ok v l)(f:iZ w p 0 (.string N)):Calls prog 85 #[v,.func (.func 168) #[] #[.pointer (some ⟨p,0,none⟩)]] w (aP (.int .i64 (eS (fun x=>gR N x.1) l)) w):=by
 obtain⟨a,c,rfl,z⟩:=h.slice;have n:=aA h;have j:=aA (fun wr (o:Below w.heap.size w wr)=>(f.on o:iZ wr p 0 (.string N)));clear h f;obtain⟨PR,d⟩:∃PR:pO->Bool,PR=(fun x=>gR N x.1):=⟨_,rfl⟩;have m:=aA d;rw[<-d];clear d;unfold aP;go_enter func85,ntmps85;go_wp2;go_loopw [5,8] (fun _ i wr=>∃k:Nat,k<=l.length/\i=.int .i64 k/\Hid (∀i (hi:i<l.length),i<k->PR l[i]=false)/\Hid (Below w.heap.size w wr)) (fun _ i _=>l.length - (intOf i).toNat)
 case atStart=>exact AY
 case round=>
  obtain⟨k,y,rfl,HR,HB⟩:=hrel;by_cases hlt:k<l.length
  .have hk1:(k:Int)<(l.length:Int):=qo;obtain⟨b,off,r,rfl,_,s,⟨rfl,t⟩,hcl⟩:=aH.at bP (n.o.on bP HB.o) hlt qe;obtain⟨q,A,B,C⟩:=Fl hcl;rw[Nat.add_zero] at q;have HI:Hid (Calls prog 168 #[.agg #[.string l[k].1,.int .i64 l[k].2.1,.int .i64 l[k].2.2.1,.string l[k].2.2.2],.pointer (some ⟨p,0,none⟩)] wr (aP (.bool (PR l[k])) wr)):=by rw[m.o];exact aA (Bw l[k] p N wr (j.o wr HB.o))
   exact JV
  .exact JU
theorem XH{ok:nP}(v:Value)(l:List tS)(N:bY)(p:Nat)(w:World)(h:aH mP w ok v l)(f:iZ w p 0 (.string N)):Calls prog 239 #[v,.func (.func 204) #[] #[.pointer (some ⟨p,0,none⟩)]] w (aP (.int .i64 (eS (fun x=>decide (x.aDd=N)) l)) w):=by
 obtain⟨a,c,rfl,z⟩:=h.slice;have n:=aA h;have j:=aA (fun wr (o:Below w.heap.size w wr)=>(f.on o:iZ wr p 0 (.string N)));clear h f;obtain⟨PR,d⟩:∃PR:tS->Bool,PR=(fun x=>decide (x.aDd=N)):=⟨_,rfl⟩;have m:=aA d;rw[<-d];clear d;unfold aP;go_enter func239,ntmps239;go_wp2;go_loopw [5,8] (fun _ i wr=>∃k:Nat,k<=l.length/\i=.int .i64 k/\Hid (∀i (hi:i<l.length),i<k->PR l[i]=false)/\Hid (Below w.heap.size w wr)) (fun _ i _=>l.length - (intOf i).toNat)
 case atStart=>exact AY
 case round=>
  obtain⟨k,y,rfl,HR,HB⟩:=hrel;by_cases hlt:k<l.length
  .have hk1:(k:Int)<(l.length:Int):=qo;obtain⟨b,off,r,rfl,_,s,⟨rfl,t⟩,hcl⟩:=aH.at cC (n.o.on cC HB.o) hlt qe;obtain⟨q,A,B⟩:=cR3 hcl;rw[Nat.add_zero] at q;have HI:Hid (Calls prog 204 #[.agg #[.int .i64 l[k].aCN,.string l[k].aDd,.string l[k].aDL],.pointer (some ⟨p,0,none⟩)] wr (aP (.bool (PR l[k])) wr)):=by rw[m.o];exact aA (Gx l[k] p N wr (j.o wr HB.o))
   exact JV
  .exact JU
theorem XI{ok:nP}(v:Value)(l:List cF)(N:bY)(p:Nat)(w:World)(h:aH pU w ok v l)(m:iZ w p 2 (.string N)):Calls prog 48 #[v,.func (.func 171) #[] #[.pointer (some ⟨p,0,none⟩)]] w (aP (.int .i64 (eS (fun x=>decide (x.id=N)) l)) w):=by
 obtain⟨a,c,rfl,B⟩:=h.slice;have s:=aA h;have o:=aA (fun wr (t:Below w.heap.size w wr)=>(m.on t:iZ wr p 2 (.string N)));clear h m;obtain⟨PR,d⟩:∃PR:cF->Bool,PR=(fun x=>decide (x.id=N)):=⟨_,rfl⟩;have q:=aA d;rw[<-d];clear d;unfold aP;go_enter func48,ntmps48;go_wp2;go_loopw [5,8] (fun _ i wr=>∃k:Nat,k<=l.length/\i=.int .i64 k/\Hid (∀i (hi:i<l.length),i<k->PR l[i]=false)/\Hid (Below w.heap.size w wr)) (fun _ i _=>l.length - (intOf i).toNat)
 case atStart=>exact AY
 case round=>
  obtain⟨k,A,rfl,HR,HB⟩:=hrel;by_cases hlt:k<l.length
  .have hk1:(k:Int)<(l.length:Int):=qo;obtain⟨b,off,r,rfl,_,z,⟨C,D,rfl,n⟩,hcl⟩:=aH.at dS (s.o.on dS HB.o) hlt qe;obtain⟨f,j,rfl,_⟩:=n.2.2.2.1.slice;obtain⟨la,lc,rfl,_⟩:=n.2.2.2.2.slice;obtain⟨y,E,F,G,H⟩:=JM hcl;rw[Nat.add_zero] at y;have HI:Hid (Calls prog 171 #[.agg #[.string l[k].id,.string l[k].aC6,.string l[k].aCZ,.slice f l[k].aCJ.length j,.slice la l[k].log.length lc],.pointer (some ⟨p,0,none⟩)] wr (aP (.bool (PR l[k])) wr)):=by rw[q.o];exact aA (Gy l[k] f la j lc p N wr (o.o wr HB.o))
   exact JV
  .exact JU
theorem XJ{ok:nP}(v:Value)(l:List cF)(w:World)(h:aH pU w ok v l)(p:True):Calls prog 48 #[v,.func (.func 120) #[] #[]] w (aP (.int .i64 (eS (fun x=>decide (256<x.log.length)) l)) w):=by
 obtain⟨a,c,rfl,A⟩:=h.slice;have o:=aA h;have s:=aA (fun wr (t:Below w.heap.size w wr)=>(trivial:True));clear h p;obtain⟨PR,d⟩:∃PR:cF->Bool,PR=(fun x=>decide (256<x.log.length)):=⟨_,rfl⟩;have n:=aA d;rw[<-d];clear d;unfold aP;go_enter func48,ntmps48;go_wp2;go_loopw [5,8] (fun _ i wr=>∃k:Nat,k<=l.length/\i=.int .i64 k/\Hid (∀i (hi:i<l.length),i<k->PR l[i]=false)/\Hid (Below w.heap.size w wr)) (fun _ i _=>l.length - (intOf i).toNat)
 case atStart=>exact AY
 case round=>
  obtain⟨k,z,rfl,HR,HB⟩:=hrel;by_cases hlt:k<l.length
  .have hk1:(k:Int)<(l.length:Int):=qo;obtain⟨b,off,r,rfl,_,y,⟨B,C,rfl,m⟩,hcl⟩:=aH.at dS (o.o.on dS HB.o) hlt qe;obtain⟨f,j,rfl,_⟩:=m.2.2.2.1.slice;obtain⟨la,lc,rfl,_⟩:=m.2.2.2.2.slice;obtain⟨q,D,E,F,G⟩:=JM hcl;rw[Nat.add_zero] at q;have HI:Hid (Calls prog 120 #[.agg #[.string l[k].id,.string l[k].aC6,.string l[k].aCZ,.slice f l[k].aCJ.length j,.slice la l[k].log.length lc],] wr (aP (.bool (PR l[k])) wr)):=by rw[n.o];exact aA (Gz l[k] f la j lc wr)
   exact JV
  .exact JU
theorem TF{ok:nP}(v:Value)(l:List Ob)(N:bY)(p:Nat)(w:World)(h:aH jT w ok v l)(f:iZ w p 0 (.string N)):Calls prog 170 #[v,.func (.func 117) #[] #[.pointer (some ⟨p,0,none⟩)]] w (aP (.int .i64 (eS (fun x=>decide (x.aCF=2)&&decide (x.arg=N)) l)) w):=by
 obtain⟨a,c,rfl,z⟩:=h.slice;have n:=aA h;have j:=aA (fun wr (o:Below w.heap.size w wr)=>(f.on o:iZ wr p 0 (.string N)));clear h f;obtain⟨PR,d⟩:∃PR:Ob->Bool,PR=(fun x=>decide (x.aCF=2)&&decide (x.arg=N)):=⟨_,rfl⟩;have m:=aA d;rw[<-d];clear d;unfold aP;go_enter func170,ntmps170;go_wp2;go_loopw [5,8] (fun _ i wr=>∃k:Nat,k<=l.length/\i=.int .i64 k/\Hid (∀i (hi:i<l.length),i<k->PR l[i]=false)/\Hid (Below w.heap.size w wr)) (fun _ i _=>l.length - (intOf i).toNat)
 case atStart=>exact AY
 case round=>
  obtain⟨k,y,rfl,HR,HB⟩:=hrel;by_cases hlt:k<l.length
  .have hk1:(k:Int)<(l.length:Int):=qo;obtain⟨b,off,r,rfl,_,s,⟨rfl,t⟩,hcl⟩:=aH.at aO (n.o.on aO HB.o) hlt qe;obtain⟨q,A,B⟩:=cR3 hcl;rw[Nat.add_zero] at q;have HI:Hid (Calls prog 117 #[.agg #[.int .i64 l[k].on,.int .i64 l[k].aCF,.string l[k].arg],.pointer (some ⟨p,0,none⟩)] wr (aP (.bool (PR l[k])) wr)):=by rw[m.o];exact aA (Bx l[k] p N wr (j.o wr HB.o))
   exact JV
  .exact JU
theorem XK{ok:nP}(v:Value)(l:List vQ)(N:bY)(T:Int)(p q:Nat)(w:World)(h:aH sQ w ok v l)(d:iZ w p 0 (.string N)/\iZ w q 0 (.int .i64 T)/\(∀x∈l,0<=x.aCN/\x.aCN<=T/\T<=1099511627776)):Calls prog 205 #[v,.func (.func 163) #[] #[.pointer (some ⟨p,0,none⟩),.pointer (some ⟨q,0,none⟩)]] w (aP (.int .i64 (eS (fun x=>decide (x.aCT=N)&&(x.open_&&decide (100<=T - x.aCN))) l)) w):=by
 obtain⟨a,c,rfl,A⟩:=h.slice;have o:=aA h;have f:=aA (fun wr (m:Below w.heap.size w wr)=>(⟨d.1.on m,d.2.1.on m,d.2.2⟩:iZ wr p 0 (.string N)/\iZ wr q 0 (.int .i64 T)/\(∀x∈l,0<=x.aCN/\x.aCN<=T/\T<=1099511627776)));clear h d;obtain⟨PR,j⟩:∃PR:vQ->Bool,PR=(fun x=>decide (x.aCT=N)&&(x.open_&&decide (100<=T - x.aCN))):=⟨_,rfl⟩;have n:=aA j;rw[<-j];clear j;unfold aP;go_enter func205,ntmps205;go_wp2;go_loopw [5,8] (fun _ i wr=>∃k:Nat,k<=l.length/\i=.int .i64 k/\Hid (∀i (hi:i<l.length),i<k->PR l[i]=false)/\Hid (Below w.heap.size w wr)) (fun _ i _=>l.length - (intOf i).toNat)
 case atStart=>exact AY
 case round=>
  obtain⟨k,z,rfl,HR,HB⟩:=hrel;by_cases hlt:k<l.length
  .have hk1:(k:Int)<(l.length:Int):=qo;obtain⟨b,off,r,rfl,_,t,⟨rfl,y⟩,hcl⟩:=aH.at cS (o.o.on cS HB.o) hlt qe;obtain⟨s,B,C,D,E,F,G⟩:=CA hcl;rw[Nat.add_zero] at s;have HI:Hid (Calls prog 163 #[.agg #[.int .i64 l[k].id,.int .i64 l[k].aCN,.string l[k].aCT,.string l[k].aCK,.string l[k].action,.string l[k].aC2,.bool l[k].open_],.pointer (some ⟨p,0,none⟩),.pointer (some ⟨q,0,none⟩)] wr (aP (.bool (PR l[k])) wr)):=by rw[n.o];exact aA (Ha l[k] p q N T wr (f.o wr HB.o).1 (f.o wr HB.o).2.1 ((f.o wr HB.o).2.2 _ (List.getElem_mem hlt)))
   exact JV
  .exact JU
theorem Ro{p:Prop}(h:p:=by
 go_wp2;go_returns;exact⟨by rw[<-HE.o];rfl,HB.o⟩):p:=h
theorem QCe{p:Prop}(h:p:=by
 go_wp2_with fail;refine HI.o.mono ?_;rintro e w1 ⟨rfl,hb_⟩;have HB1:=qB HB0 hb_;clear hb_ HI;go_wp2;go_returns;exact⟨by rw[<-HA.o];rfl,HB1.o⟩):p:=h
theorem QCc{p:Prop}(h:p:=by
 have HF:=aA (HL.o true rfl);clear HL;go_wp2;go_returns;exact⟨by have:=HF.o;rw[iP trivial] at this;rw[this];rfl,HB0.o.trans (HB'.o.mono HB0.o.size)⟩):p:=h
theorem QBK{p:Prop}(h:p:=by
 have hk1:¬(k:Int)<(l.length:Int):=qo;obtain rfl:k=l.length:=qo;have HF:=aA (OA HR.o);clear HR;go_wp2;go_returns;exact⟨by rw[HF.o];rfl,HB0.o.trans (HB.o.mono HB0.o.size)⟩):p:=h
theorem Rp{p:Prop}(h:p:=by
 refine HI.o.mono ?_;rintro e w1 ⟨rfl,hb_⟩;have HB1:=qB HB0 hb_;clear hb_ HI;go_wp2;go_returns;exact⟨rfl,HB1.o⟩):p:=h
theorem CT{a b:bY}:a.toList=b.toList↔a=b:=⟨fun h=>by rw[Lib.toList_data,Lib.toList_data] at h;exact ByteArray.ext (Array.ext' h),fun h=>by rw[h]⟩
def CU(m:Ma)(v:V3)(w:World)(e:Ending)(w':World):Prop:=e=.returned (.tuple #[.bool (kA m v).1,.int .i64 (kA m v).2])/\Below w.heap.size w w'
theorem XL(m:Ma)(v:V3)(hm:tP m)(j:cR v)(w:World):Calls prog 238 #[kL m,dA v] w (CU m v w):=by
 have b:=aA (fun w=>CM v m.val j hm.2.2 w);have c:=aA (fun w=>CM m.val v hm.2.2 j w);obtain⟨⟨ac,i,am⟩,op,mk,a,ms⟩:=m;obtain⟨vk,vn,vs⟩:=v;have k:=aA (aC (aB w (.cells #[.int .i64 ac,.string i,.bool am,.int .i64 op,.int .i64 mk,.int .i64 a,.string ms] 288)) (aB _ (.cells #[.int .i64 vk,.int .i64 vn,.string vs] 44)));unfold sU dA at b c;unfold dA kL;simp only at b c ⊢;clear hm j;by_cases h1:op=1
 .have d1:(op==1)=true:=bQ.2 h1;have H1:=aA h1;clear h1 b c;go_enter func238,ntmps238;go_wp2
  all_goals go_returns
  all_goals
   unfold CU kA;simp only[H1.o,if_true];refine⟨?_,aC (aB _ _) (aB _ _)⟩
   simp_all [CT]
 .have d1:(op==1)=false:=bN.2 h1;by_cases h2:op=2
  .have d2:(op==2)=true:=bQ.2 h2;have g:Hid (kA ⟨⟨ac,i,am⟩,op,mk,a,ms⟩ (vk,vn,vs)=jS (vk,vn,vs) (mk,a,ms)):=aA (by unfold kA;simp only[iN h1,iP h2]);generalize jS (vk,vn,vs) (mk,a,ms)=r at *;obtain⟨l,n⟩:=r;clear h1 h2 c;go_enter func238,ntmps238;go_wp2_with fail;refine(b.o _).mono ?_;rintro e w1 ⟨rfl,d⟩;have f:=qB k d;clear d b;go_wp2;go_returns;unfold CU;rw[g.o];exact⟨rfl,f.o⟩
  .have d2:(op==2)=false:=bN.2 h2;have g:Hid (kA ⟨⟨ac,i,am⟩,op,mk,a,ms⟩ (vk,vn,vs)=jS (mk,a,ms) (vk,vn,vs)):=aA (by unfold kA;simp only[iN h1,iN h2]);generalize jS (mk,a,ms) (vk,vn,vs)=r at *;obtain⟨l,n⟩:=r;clear h1 h2 b;go_enter func238,ntmps238;go_wp2_with fail;refine(c.o _).mono ?_;rintro e w1 ⟨rfl,d⟩;have f:=qB k d;clear d c;go_wp2;go_returns;unfold CU;rw[g.o];exact⟨rfl,f.o⟩
theorem QH{m:Ma}{l:List V3}{k out R:Nat}(a:k<l.length)(h:lZ m (l.drop k) out=R):(if (kA m l[k]).1=true then 2 else lZ m (l.drop (k+1)) (if (kA m l[k]).2≠0 then 1 else out))=R:=by
 rw[List.drop_eq_getElem_cons a] at h;exact h
theorem JW{ok:nP}(m:Ma)(hm:tP m)(F:Value)(g:List Gv)(w:World)(h:aH jM w ok F g):Calls prog 202 #[kL m,F] w (aP (.int .i64 (oL g m:Nat)) w):=by
 have t:=aA (aB w (.cells (JP m) 288));have G:=aA (aK w (.cells (JP m) 288) _ rfl);have j:=aA (TA F g m.aC3 _ (h.on bZ t.o));have B:=aA (fun v T w=>XL m v hm T w);obtain⟨a,c,rfl,ad⟩:=h.slice;unfold aP oL kL;unfold sW oF at j;unfold CU kL dA at B;clear h hm;obtain⟨bag,J,L⟩:∃b e,rH g m.aC3=(b,e):=⟨_,_,rfl⟩;rw[L] at j ⊢;clear L;simp only at j ⊢;by_cases he:J=0
 case neg=>
  rw[iP he];have d:(J != 0)=true:=bne_iff_ne.2 he;clear he B;go_enter func202,ntmps202;go_wp2_with fail;refine j.o.mono ?_;rintro e w1 ⟨v,rfl,q,f⟩;have l:=qB t f;clear q f j;go_wp2;go_returns;exact⟨rfl,l.o⟩
 subst he;rw[iN (fun h=>h rfl)];obtain⟨res,E⟩:=xE (lZ m bag 0);rw[<-E];have I:Hid (lZ m (bag.drop 0) 0=res):=aA (by rw[List.drop_zero];exact E.symm);clear E;go_enter func202,ntmps202;go_wp2_with fail;refine j.o.mono ?_;rintro e w1 ⟨v,rfl,q,f⟩;obtain⟨l,P,R⟩:=aY (aC t.o f) (aE G.o f) q;obtain⟨ba,bc,rfl,aa⟩:=q.slice;clear q f j G t;go_wp2;go_loopw [7,23] (fun o i wr=>∃k out:Nat,k<=bag.length/\i=.int .i64 k/\o=.int .i64 out/\Hid (lZ m (bag.drop k) out=res)/\Hid (Below w1.heap.size w1 wr)) (fun _ i _=>bag.length - (intOf i).toNat)
 case atStart=>exact⟨0,0,Nat.zero_le _,rfl,rfl,I,aA (Below.refl _ _)⟩
 case round=>
  clear I;obtain⟨k,out,hk,rfl,rfl,y,s⟩:=hrel;by_cases N:k<bag.length
  .have S:(k:Int)<(bag.length:Int):=qo;obtain⟨b,off,r,rfl,_,ab,⟨rfl,M⟩,K⟩:=aH.at bG (R.o.on bG s.o) N qe;obtain⟨O,W,X⟩:=cR3 K;rw[Nat.add_zero] at O;have H:=qK P s.o;obtain⟨⟨Y,Z,y2,y3,y4,y5,y6⟩,_⟩:=bI H.o;have U:=aD H.o;have p:=aA (QH N y.o);have A:=aA (B.o bag[k] M);clear K y M;generalize bag[k]=x at *;generalize kA m x=r at *;obtain⟨V,z⟩:=r;simp only at A p;go_wp2_with fail;refine(A.o _).mono ?_;rintro e w2 ⟨rfl,f⟩;have C:=aA (aC (aC s.o (aB _ _)) f);clear f A O W X Y Z y2 y3 y4 y5 y6 U
   cases V
   .have n:Hid (lZ m (bag.drop (k+1)) (if z≠0 then 1 else out)=res):=p.o;by_cases he:z=0
    .have d2:(z != 0)=false:=by rw[he];rfl
     have D:Hid (lZ m (bag.drop (k+1)) out=res):=aA (by have:=n.o;rwa [iN (fun h=>h he)] at this);clear he p n;go_wp2;go_roundw
     case rel=>exact⟨k+1,out,qo,by go_num,rfl,D,C⟩
     case measure=>simp[intOf];omega
    .have d2:(z != 0)=true:=bne_iff_ne.2 he;have D:Hid (lZ m (bag.drop (k+1)) 1=res):=aA (by have:=n.o;rwa [iP he] at this);clear he p n;go_wp2;go_roundw
     case rel=>exact⟨k+1,1,qo,by go_num,rfl,D,C⟩
     case measure=>simp[intOf];omega
   .have n:Hid (2=res):=p.o;clear p;go_wp2;go_returns;exact⟨by rw[<-n.o];rfl,l.o.trans (C.o.mono l.o.size)⟩
  .have S:¬(k:Int)<(bag.length:Int):=qo;obtain rfl:k=bag.length:=qo;have Q:Hid (out=res):=aA (by have:=y.o;rwa [List.drop_length] at this);clear y;go_wp2;go_returns;exact⟨by rw[<-Q.o];rfl,l.o.trans (s.o.mono l.o.size)⟩
theorem Xg(p q:Nat)(a:Array TypeId)(t:TypeId)(w:World):(Builtin.min_ a t #[.int .i64 (p:Int),.int .i64 (q:Int)]).run prog w=.ok (.int .i64 ((min p q:Nat):Int)) w:=by
 simp[Builtin.min_,Builtin.min2]
 rcases Nat.lt_or_ge q p with h|h<;>simp[h]<;>omega
theorem aCe(p q:Nat)(a:Array TypeId)(t:TypeId)(w:World):(Builtin.max_ a t #[.int .i64 (p:Int),.int .i64 (q:Int)]).run prog w=.ok (.int .i64 ((max p q:Nat):Int)) w:=by
 simp[Builtin.max_,Builtin.max2]
 rcases Nat.lt_or_ge p q with h|h<;>simp[h]<;>omega
theorem CV{α β:Type}{f:β->α->β}{l:List α}{k:Nat}{out R:β}(a:k<l.length)(h:(l.drop k).foldl f out=R):(l.drop (k+1)).foldl f (f out l[k])=R:=by
 rw[List.drop_eq_getElem_cons a] at h;exact h
theorem IM{α β:Type}{f:β->α->β}{l:List α}{out R:β}(h:(l.drop l.length).foldl f out=R):out=R:=by
 rw[List.drop_length] at h;exact h
theorem Ni{ok ok':nP}(A:Value)(l:List Ma)(z:Value)(g:List Gv)(w:World)(j:aH rK w ok' A l)(h:aH jM w ok z g):Calls prog 231 #[A,z] w (aP (.int .i64 (yV g l:Nat)) w):=by
 obtain⟨a,c,rfl,Q⟩:=h.slice;obtain⟨la,lc,rfl,R⟩:=j.slice;have E:=aA j;have D:=aA h;clear h j;unfold aP yV;obtain⟨res,p⟩:=xE (l.foldl (fun out m=>min out (oL g m)) 2);rw[<-p];have q:Hid ((l.drop 0).foldl (fun out m=>min out (oL g m)) 2=res):=aA (by rw[List.drop_zero];exact p.symm);clear p;go_enter func231,ntmps231;go_wp2;go_loopw [5,10] (fun o i wr=>∃k out:Nat,k<=l.length/\i=.int .i64 k/\o=.int .i64 out/\Hid ((l.drop k).foldl (fun out m=>min out (oL g m)) out=res)/\Hid (Below w.heap.size w wr)) (fun _ i _=>l.length - (intOf i).toNat)
 case atStart=>exact⟨0,2,Nat.zero_le _,rfl,rfl,q,aA (Below.refl _ _)⟩
 case round=>
  clear q;obtain⟨k,out,P,rfl,rfl,d,HB⟩:=hrel;by_cases y:k<l.length
  .have G:(k:Int)<(l.length:Int):=qo;obtain⟨b,off,r,rfl,_,O,⟨rfl,v⟩,t⟩:=aH.at eN (E.o.on eN HB.o) y qe;obtain⟨B,I,J,K,L,M,N⟩:=CA t;rw[Nat.add_zero] at B;have F:=aA (CV y d.o);have f:=aA (JW l[k] v _ g (wr.alloc (.cells #[.int .i64 l[k].aC3.cat,.string l[k].aC3.name,.bool l[k].aC3.aDc,.int .i64 l[k].op,.int .i64 l[k].val.1,.int .i64 l[k].val.2.1,.string l[k].val.2.2] 288)) (D.o.on bZ (HB.o.alloc HB.o.size _)));unfold aP kL at f;clear t d v;generalize l[k]=x at *;generalize oL g x=n at *;have H:=Xg out n;go_wp2_with fail;refine f.o.mono ?_;rintro e w2 ⟨rfl,s⟩;have C:=aA (aC (aC HB.o (aB _ _)) s);clear s f B I J K L M N;go_wp2;clear H;go_roundw
   case rel=>exact⟨k+1,min out n,qo,by go_num,rfl,F,C⟩
   case measure=>simp[intOf];omega
  .have G:¬(k:Int)<(l.length:Int):=qo;obtain rfl:k=l.length:=qo;have HE:=aA (IM d.o);clear d;exact Ro
theorem ZJ{ok ok':nP}(vt:Value)(t:Ta)(O:Value)(g:List Gv)(w:World)(H:nX w ok' vt t)(h:aH jM w ok O g):Calls prog 198 #[vt,O] w (aP (.int .i64 (xK g t:Nat)) w):=by
 obtain⟨a,c,rfl,aa⟩:=h.slice;obtain⟨ta,tc,rfl,ab⟩:=H.slice;have S:=aA H;have R:=aA h;clear h H;unfold aP xK;obtain⟨F,B⟩:∃F:Nat->List (List Ma)->Nat,F=(fun out l=>min out (l.foldl (fun d x=>max d (yV g x)) 0)):=⟨_,rfl⟩;have Q:=aA B;rw[<-B];clear B;obtain⟨res,D⟩:=xE (t.foldl F 2);rw[<-D];have K:Hid ((t.drop 0).foldl F 2=res):=aA (by rw[List.drop_zero];exact D.symm);clear D;go_enter func198,ntmps198;go_wp2;go_loopw [5,13] (fun o i wr=>∃k out:Nat,k<=t.length/\i=.int .i64 k/\o=.int .i64 out/\Hid ((t.drop k).foldl F out=res)/\Hid (Below w.heap.size w wr)) (fun _ i _=>t.length - (intOf i).toNat)
 case atStart=>exact⟨0,2,Nat.zero_le _,rfl,rfl,K,aA (Below.refl _ _)⟩
 case round=>
  clear K;obtain⟨y,rfl⟩:∃y:World,y=wr:=⟨_,rfl⟩;obtain⟨k,out,hk,rfl,rfl,s,HB⟩:=hrel;by_cases N:k<t.length
  .have V:(k:Int)<(t.length:Int):=qo;obtain⟨b,off,r,rfl,_,Y,⟨vx,rfl,E⟩,f⟩:=aH.at aS (S.o.on aS HB.o) N qe;obtain⟨xa,xc,rfl,_⟩:=E.slice;have m:=f 0 _ rfl;rw[Nat.add_zero,Nat.mul_one] at m;have A:=aA (CV N s.o);have T:=aA E;have I:=aA (show F out t[k]=min out (t[k].foldl (fun d x=>max d (yV g x)) 0) by rw[Q.o]);clear f s E;generalize t[k]=l at *;obtain⟨d,C⟩:=xE (l.foldl (fun d x=>max d (yV g x)) 0);rw[<-C] at I;have J:Hid ((l.drop 0).foldl (fun d x=>max d (yV g x)) 0=d):=aA (by rw[List.drop_zero];exact C.symm);clear C;go_wp2;clear m;go_loopw [8,10,19] (fun o _ i wr=>∃j b:Nat,j<=l.length/\i=.int .i64 j/\o=.int .i64 b/\Hid ((l.drop j).foldl (fun d x=>max d (yV g x)) b=d)/\Hid (Below y.heap.size y wr)) (fun _ _ i _=>l.length - (intOf i).toNat)
   case atStart=>exact⟨0,0,Nat.zero_le _,rfl,rfl,J,aA (Below.refl _ _)⟩
   case round=>
    clear J;obtain⟨j,v,hj,rfl,rfl,q,p⟩:=hrel;by_cases M:j<l.length
    .have U:(j:Int)<(l.length:Int):=qo;obtain⟨b2,ad,r2,rfl,_,Z,⟨vy,rfl,G⟩,f⟩:=aH.at dM (T.o.on dM p.o) M qe;obtain⟨ya,yc,rfl,_⟩:=G.slice;have m:=f 0 _ rfl;rw[Nat.add_zero,Nat.mul_one] at m;have A:=aA (CV M q.o);have z:=aA (Ni _ _ _ g wr G (R.o.on bZ (aC HB.o p.o)));unfold aP at z;clear f q G;generalize l[j]=x at *;generalize yV g x=n at *;have W:=aCe v n;go_wp2_with fail;refine z.o.mono ?_;rintro e w2 ⟨rfl,L⟩;have P:=qB p L;clear L z m;go_wp2;clear W;go_roundw
     case rel=>exact⟨j+1,max v n,qo,by go_num,rfl,A,P⟩
     case measure=>simp[intOf];omega
    .have U:¬(j:Int)<(l.length:Int):=qo;obtain rfl:j=l.length:=qo;have HE:=aA (IM q.o);clear q;have X:=Xg out v;go_wp2;clear X;go_roundw
     case rel=>exact⟨k+1,min out v,qo,by go_num,rfl,aA (by have:=A.o;rw[I.o,<-HE.o] at this;exact this),aA (aC HB.o p.o)⟩
     case measure=>simp[intOf];omega
  .have V:¬(k:Int)<(t.length:Int):=qo;obtain rfl:k=t.length:=qo;have HE:=aA (IM s.o);clear s;exact Ro
end Go.Proofs.YtlfngkelmbdehaaGreatDoor
