/- Lemmas. -/
import Derived.Test.YtheabjeppmdmiaaGreatDoorMai
namespace Go.Proofs.YtheabjeppmdmiaaGreatDoor
open Go.RowKit
set_option linter.unusedVariables false
set_option linter.unusedSimpArgs false
set_option maxHeartbeats 16000000
open _root_.Go.Proofs.Tryz
set_option maxRecDepth 20000
theorem De:eF prog 97 160 3 40:=fZ (z:= .agg #[.int .i64 0,.string ByteArray.empty,.string ByteArray.empty]) underlying97 (by kernel_rfl) rfl qe
theorem xG:eF prog 96 172 4 48:=fZ (z:= .agg #[.string ByteArray.empty,.int .i64 0,.int .i64 0,.string ByteArray.empty]) underlying96 (by kernel_rfl) rfl qe
theorem AF:eF prog 40 99 5 96:=fZ (z:= .agg #[.string ByteArray.empty,.string ByteArray.empty,.string ByteArray.empty,.slice none 0 0,.slice none 0 0]) underlying40 (by kernel_rfl) rfl qe
theorem Tm:eF prog 41 56 7 88:=fZ (z:= .agg #[.int .i64 0,.int .i64 0,.string ByteArray.empty,.string ByteArray.empty,.string ByteArray.empty,.string ByteArray.empty,.bool false]) underlying41 (by kernel_rfl) rfl qe
theorem Tn:eF prog 42 156 3 40:=fZ (z:= .agg #[.int .i64 0,.string ByteArray.empty,.string ByteArray.empty]) underlying42 (by kernel_rfl) rfl qe
theorem To:eF prog 43 147 2 32:=fZ (z:= .agg #[.string ByteArray.empty,.string ByteArray.empty]) underlying43 (by kernel_rfl) rfl qe
theorem aC7:eF prog 48 167 3 32:=fZ (z:= .agg #[.int .i64 0,.int .i64 0,.string ByteArray.empty]) underlying48 (by kernel_rfl) rfl qe
theorem aC8:eF prog 297 262 7 72:=fZ (z:= .agg #[.int .i64 0,.string ByteArray.empty,.bool false,.int .i64 0,.int .i64 0,.int .i64 0,.string ByteArray.empty]) underlying297 (by kernel_rfl) rfl qe
theorem aC9:eF prog 250 274 7 72:=fZ (z:= .agg #[.int .i64 0,.int .i64 0,.int .i64 0,.string ByteArray.empty,.int .i64 0,.string ByteArray.empty,.bool false]) underlying250 (by kernel_rfl) rfl qe
theorem aDa:eF prog 46 252 5 96:=fZ (z:= .agg #[.string ByteArray.empty,.bool false,.slice none 0 0,.slice none 0 0,.slice none 0 0]) underlying46 (by kernel_rfl) rfl qe
theorem aDb:eF prog 47 50 7 128:=fZ (z:= .agg #[.string ByteArray.empty,.bool false,.int .i64 0,.slice none 0 0,.slice none 0 0,.slice none 0 0,.slice none 0 0]) underlying47 (by kernel_rfl) rfl qe
theorem DG{ok:nP}(v:Value)(l:List uC)(w:World)(h:aH mZ w ok v l):Calls prog 74 #[v] w (bV mZ 3 160 ok l w):=by
 obtain⟨a,c,rfl,n⟩:=h.slice;unfold bV
 rcases a with _|k
 .have B:=kJ cD qe h;subst B;have heq:=Lib.run_eql_slice_nil (P:=prog) w 97 160 none 0 c 0 0 underlying97;clear h;go_enter func74,ntmps74;exact BU
 .obtain⟨D,E,cs,b,h1,h2,_⟩:=h;injection b with b _ z;subst b z;have heq:=Lib.run_eql_slice_nil (P:=prog) w 97 160 (some k) l.length c 0 0 underlying97;have d:Below w.heap.size w (w.alloc (.cells #[] 160)):=(Below.refl _ _).alloc (lR _) _;have g:=aA (World.ownsRow_made (e:=160) w #[] 0 (lR _) (by simp[maxLen]) rfl:(w.alloc (.cells #[] 160)).ownsRow w.heap.size 160 3 (.slice (some ⟨w.heap.size,0,none⟩) 0 0) 0 []);have s:=aA (h2.len (fun _ _ f=>cD.len f));have t:=aA (h2.aEf (fun _ _ f=>cD.one f));obtain⟨y,r,q,j⟩:=dI (h1.lt.below d) h2 d n;clear h1 h2 d n;go_enter func74,ntmps74;go_wp2_with (at_builtin;refine fR De rfl (.tmp 5) (.tmp 6) rfl w.heap.size (.slice (some ⟨w.heap.size,0,none⟩) 0 0) 0 [] rfl g.o (some k) l.length c cs rfl s.o (y.o.more qs) t.o (by have:=j.o;unfold maxLen;omega) (qA j.o) qs ?_;intro C c1 w1 p m A;have i:=aA (eA g.o q.o m (lR _) qs);have x:=aA p;clear p m A)
  go_returns;have o:=x.o;simp only[Nat.zero_add,List.nil_append] at o ⊢;exact⟨_,rfl,lQ cD r.o i.o o,i.o⟩
theorem UG{ok:nP}(v:Value)(l:List pY)(w:World)(h:aH lN w ok v l):Calls prog 136 #[v] w (bV lN 4 172 ok l w):=by
 obtain⟨a,c,rfl,n⟩:=h.slice;unfold bV
 rcases a with _|k
 .have B:=kJ bP qe h;subst B;have heq:=Lib.run_eql_slice_nil (P:=prog) w 96 172 none 0 c 0 0 underlying96;clear h;go_enter func136,ntmps136;exact BU
 .obtain⟨D,E,cs,b,h1,h2,_⟩:=h;injection b with b _ z;subst b z;have heq:=Lib.run_eql_slice_nil (P:=prog) w 96 172 (some k) l.length c 0 0 underlying96;have d:Below w.heap.size w (w.alloc (.cells #[] 172)):=(Below.refl _ _).alloc (lR _) _;have g:=aA (World.ownsRow_made (e:=172) w #[] 0 (lR _) (by simp[maxLen]) rfl:(w.alloc (.cells #[] 172)).ownsRow w.heap.size 172 4 (.slice (some ⟨w.heap.size,0,none⟩) 0 0) 0 []);have s:=aA (h2.len (fun _ _ f=>bP.len f));have t:=aA (h2.aEf (fun _ _ f=>bP.one f));obtain⟨y,r,q,j⟩:=dI (h1.lt.below d) h2 d n;clear h1 h2 d n;go_enter func136,ntmps136;go_wp2_with (at_builtin;refine fR xG rfl (.tmp 5) (.tmp 6) rfl w.heap.size (.slice (some ⟨w.heap.size,0,none⟩) 0 0) 0 [] rfl g.o (some k) l.length c cs rfl s.o (y.o.more qs) t.o (by have:=j.o;unfold maxLen;omega) (qA j.o) qs ?_;intro C c1 w1 p m A;have i:=aA (eA g.o q.o m (lR _) qs);have x:=aA p;clear p m A)
  go_returns;have o:=x.o;simp only[Nat.zero_add,List.nil_append] at o ⊢;exact⟨_,rfl,lQ bP r.o i.o o,i.o⟩
theorem DH{ok:nP}(v:Value)(l:List cH)(w:World)(h:aH qI w ok v l):Calls prog 73 #[v] w (bV qI 5 99 ok l w):=by
 obtain⟨a,c,rfl,n⟩:=h.slice;unfold bV
 rcases a with _|k
 .have B:=kJ dY qe h;subst B;have heq:=Lib.run_eql_slice_nil (P:=prog) w 40 99 none 0 c 0 0 underlying40;clear h;go_enter func73,ntmps73;exact BU
 .obtain⟨D,E,cs,b,h1,h2,_⟩:=h;injection b with b _ z;subst b z;have heq:=Lib.run_eql_slice_nil (P:=prog) w 40 99 (some k) l.length c 0 0 underlying40;have d:Below w.heap.size w (w.alloc (.cells #[] 99)):=(Below.refl _ _).alloc (lR _) _;have g:=aA (World.ownsRow_made (e:=99) w #[] 0 (lR _) (by simp[maxLen]) rfl:(w.alloc (.cells #[] 99)).ownsRow w.heap.size 99 5 (.slice (some ⟨w.heap.size,0,none⟩) 0 0) 0 []);have s:=aA (h2.len (fun _ _ f=>dY.len f));have t:=aA (h2.aEf (fun _ _ f=>dY.one f));obtain⟨y,r,q,j⟩:=dI (h1.lt.below d) h2 d n;clear h1 h2 d n;go_enter func73,ntmps73;go_wp2_with (at_builtin;refine fR AF rfl (.tmp 5) (.tmp 6) rfl w.heap.size (.slice (some ⟨w.heap.size,0,none⟩) 0 0) 0 [] rfl g.o (some k) l.length c cs rfl s.o (y.o.more qs) t.o (by have:=j.o;unfold maxLen;omega) (qA j.o) qs ?_;intro C c1 w1 p m A;have i:=aA (eA g.o q.o m (lR _) qs);have x:=aA p;clear p m A)
  go_returns;have o:=x.o;simp only[Nat.zero_add,List.nil_append] at o ⊢;exact⟨_,rfl,lQ dY r.o i.o o,i.o⟩
theorem DI{ok:nP}(v:Value)(l:List wF)(w:World)(h:aH tB w ok v l):Calls prog 71 #[v] w (bV tB 7 56 ok l w):=by
 obtain⟨a,c,rfl,n⟩:=h.slice;unfold bV
 rcases a with _|k
 .have B:=kJ cV qe h;subst B;have heq:=Lib.run_eql_slice_nil (P:=prog) w 41 56 none 0 c 0 0 underlying41;clear h;go_enter func71,ntmps71;exact BU
 .obtain⟨D,E,cs,b,h1,h2,_⟩:=h;injection b with b _ z;subst b z;have heq:=Lib.run_eql_slice_nil (P:=prog) w 41 56 (some k) l.length c 0 0 underlying41;have d:Below w.heap.size w (w.alloc (.cells #[] 56)):=(Below.refl _ _).alloc (lR _) _;have g:=aA (World.ownsRow_made (e:=56) w #[] 0 (lR _) (by simp[maxLen]) rfl:(w.alloc (.cells #[] 56)).ownsRow w.heap.size 56 7 (.slice (some ⟨w.heap.size,0,none⟩) 0 0) 0 []);have s:=aA (h2.len (fun _ _ f=>cV.len f));have t:=aA (h2.aEf (fun _ _ f=>cV.one f));obtain⟨y,r,q,j⟩:=dI (h1.lt.below d) h2 d n;clear h1 h2 d n;go_enter func71,ntmps71;go_wp2_with (at_builtin;refine fR Tm rfl (.tmp 5) (.tmp 6) rfl w.heap.size (.slice (some ⟨w.heap.size,0,none⟩) 0 0) 0 [] rfl g.o (some k) l.length c cs rfl s.o (y.o.more qs) t.o (by have:=j.o;unfold maxLen;omega) (qA j.o) qs ?_;intro C c1 w1 p m A;have i:=aA (eA g.o q.o m (lR _) qs);have x:=aA p;clear p m A)
  go_returns;have o:=x.o;simp only[Nat.zero_add,List.nil_append] at o ⊢;exact⟨_,rfl,lQ cV r.o i.o o,i.o⟩
theorem DJ{ok:nP}(v:Value)(l:List xX)(w:World)(h:aH wG w ok v l):Calls prog 72 #[v] w (bV wG 3 156 ok l w):=by
 obtain⟨a,c,rfl,n⟩:=h.slice;unfold bV
 rcases a with _|k
 .have B:=kJ eD qe h;subst B;have heq:=Lib.run_eql_slice_nil (P:=prog) w 42 156 none 0 c 0 0 underlying42;clear h;go_enter func72,ntmps72;exact BU
 .obtain⟨D,E,cs,b,h1,h2,_⟩:=h;injection b with b _ z;subst b z;have heq:=Lib.run_eql_slice_nil (P:=prog) w 42 156 (some k) l.length c 0 0 underlying42;have d:Below w.heap.size w (w.alloc (.cells #[] 156)):=(Below.refl _ _).alloc (lR _) _;have g:=aA (World.ownsRow_made (e:=156) w #[] 0 (lR _) (by simp[maxLen]) rfl:(w.alloc (.cells #[] 156)).ownsRow w.heap.size 156 3 (.slice (some ⟨w.heap.size,0,none⟩) 0 0) 0 []);have s:=aA (h2.len (fun _ _ f=>eD.len f));have t:=aA (h2.aEf (fun _ _ f=>eD.one f));obtain⟨y,r,q,j⟩:=dI (h1.lt.below d) h2 d n;clear h1 h2 d n;go_enter func72,ntmps72;go_wp2_with (at_builtin;refine fR Tn rfl (.tmp 5) (.tmp 6) rfl w.heap.size (.slice (some ⟨w.heap.size,0,none⟩) 0 0) 0 [] rfl g.o (some k) l.length c cs rfl s.o (y.o.more qs) t.o (by have:=j.o;unfold maxLen;omega) (qA j.o) qs ?_;intro C c1 w1 p m A;have i:=aA (eA g.o q.o m (lR _) qs);have x:=aA p;clear p m A)
  go_returns;have o:=x.o;simp only[Nat.zero_add,List.nil_append] at o ⊢;exact⟨_,rfl,lQ eD r.o i.o o,i.o⟩
theorem UH{ok:nP}(v:Value)(l:List xD)(w:World)(h:aH rD w ok v l):Calls prog 129 #[v] w (bV rD 2 147 ok l w):=by
 obtain⟨a,c,rfl,n⟩:=h.slice;unfold bV
 rcases a with _|k
 .have B:=kJ dD qe h;subst B;have heq:=Lib.run_eql_slice_nil (P:=prog) w 43 147 none 0 c 0 0 underlying43;clear h;go_enter func129,ntmps129;exact BU
 .obtain⟨D,E,cs,b,h1,h2,_⟩:=h;injection b with b _ z;subst b z;have heq:=Lib.run_eql_slice_nil (P:=prog) w 43 147 (some k) l.length c 0 0 underlying43;have d:Below w.heap.size w (w.alloc (.cells #[] 147)):=(Below.refl _ _).alloc (lR _) _;have g:=aA (World.ownsRow_made (e:=147) w #[] 0 (lR _) (by simp[maxLen]) rfl:(w.alloc (.cells #[] 147)).ownsRow w.heap.size 147 2 (.slice (some ⟨w.heap.size,0,none⟩) 0 0) 0 []);have s:=aA (h2.len (fun _ _ f=>dD.len f));have t:=aA (h2.aEf (fun _ _ f=>dD.one f));obtain⟨y,r,q,j⟩:=dI (h1.lt.below d) h2 d n;clear h1 h2 d n;go_enter func129,ntmps129;go_wp2_with (at_builtin;refine fR To rfl (.tmp 5) (.tmp 6) rfl w.heap.size (.slice (some ⟨w.heap.size,0,none⟩) 0 0) 0 [] rfl g.o (some k) l.length c cs rfl s.o (y.o.more qs) t.o (by have:=j.o;unfold maxLen;omega) (qA j.o) qs ?_;intro C c1 w1 p m A;have i:=aA (eA g.o q.o m (lR _) qs);have x:=aA p;clear p m A)
  go_returns;have o:=x.o;simp only[Nat.zero_add,List.nil_append] at o ⊢;exact⟨_,rfl,lQ dD r.o i.o o,i.o⟩
theorem GM{ok:nP}(v:Value)(l:List Ob)(w:World)(h:aH kB w ok v l):Calls prog 179 #[v] w (bV kB 3 167 ok l w):=by
 obtain⟨a,c,rfl,n⟩:=h.slice;unfold bV
 rcases a with _|k
 .have B:=kJ aO qe h;subst B;have heq:=Lib.run_eql_slice_nil (P:=prog) w 48 167 none 0 c 0 0 underlying48;clear h;go_enter func179,ntmps179;exact BU
 .obtain⟨D,E,cs,b,h1,h2,_⟩:=h;injection b with b _ z;subst b z;have heq:=Lib.run_eql_slice_nil (P:=prog) w 48 167 (some k) l.length c 0 0 underlying48;have d:Below w.heap.size w (w.alloc (.cells #[] 167)):=(Below.refl _ _).alloc (lR _) _;have g:=aA (World.ownsRow_made (e:=167) w #[] 0 (lR _) (by simp[maxLen]) rfl:(w.alloc (.cells #[] 167)).ownsRow w.heap.size 167 3 (.slice (some ⟨w.heap.size,0,none⟩) 0 0) 0 []);have s:=aA (h2.len (fun _ _ f=>aO.len f));have t:=aA (h2.aEf (fun _ _ f=>aO.one f));obtain⟨y,r,q,j⟩:=dI (h1.lt.below d) h2 d n;clear h1 h2 d n;go_enter func179,ntmps179;go_wp2_with (at_builtin;refine fR aC7 rfl (.tmp 5) (.tmp 6) rfl w.heap.size (.slice (some ⟨w.heap.size,0,none⟩) 0 0) 0 [] rfl g.o (some k) l.length c cs rfl s.o (y.o.more qs) t.o (by have:=j.o;unfold maxLen;omega) (qA j.o) qs ?_;intro C c1 w1 p m A;have i:=aA (eA g.o q.o m (lR _) qs);have x:=aA p;clear p m A)
  go_returns;have o:=x.o;simp only[Nat.zero_add,List.nil_append] at o ⊢;exact⟨_,rfl,lQ aO r.o i.o o,i.o⟩
theorem YH{ok:nP}(v:Value)(l:List Ma)(w:World)(h:aH rV w ok v l):Calls prog 222 #[v] w (bV rV 7 262 ok l w):=by
 obtain⟨a,c,rfl,n⟩:=h.slice;unfold bV
 rcases a with _|k
 .have B:=kJ eS qe h;subst B;have heq:=Lib.run_eql_slice_nil (P:=prog) w 297 262 none 0 c 0 0 underlying297;clear h;go_enter func222,ntmps222;exact BU
 .obtain⟨D,E,cs,b,h1,h2,_⟩:=h;injection b with b _ z;subst b z;have heq:=Lib.run_eql_slice_nil (P:=prog) w 297 262 (some k) l.length c 0 0 underlying297;have d:Below w.heap.size w (w.alloc (.cells #[] 262)):=(Below.refl _ _).alloc (lR _) _;have g:=aA (World.ownsRow_made (e:=262) w #[] 0 (lR _) (by simp[maxLen]) rfl:(w.alloc (.cells #[] 262)).ownsRow w.heap.size 262 7 (.slice (some ⟨w.heap.size,0,none⟩) 0 0) 0 []);have s:=aA (h2.len (fun _ _ f=>eS.len f));have t:=aA (h2.aEf (fun _ _ f=>eS.one f));obtain⟨y,r,q,j⟩:=dI (h1.lt.below d) h2 d n;clear h1 h2 d n;go_enter func222,ntmps222;go_wp2_with (at_builtin;refine fR aC8 rfl (.tmp 5) (.tmp 6) rfl w.heap.size (.slice (some ⟨w.heap.size,0,none⟩) 0 0) 0 [] rfl g.o (some k) l.length c cs rfl s.o (y.o.more qs) t.o (by have:=j.o;unfold maxLen;omega) (qA j.o) qs ?_;intro C c1 w1 p m A;have i:=aA (eA g.o q.o m (lR _) qs);have x:=aA p;clear p m A)
  go_returns;have o:=x.o;simp only[Nat.zero_add,List.nil_append] at o ⊢;exact⟨_,rfl,lQ eS r.o i.o o,i.o⟩
theorem YI{ok:nP}(v:Value)(l:List No)(w:World)(h:aH KD w ok v l):Calls prog 182 #[v] w (bV KD 7 274 ok l w):=by
 obtain⟨a,c,rfl,n⟩:=h.slice;unfold bV
 rcases a with _|k
 .have B:=kJ dU qe h;subst B;have heq:=Lib.run_eql_slice_nil (P:=prog) w 250 274 none 0 c 0 0 underlying250;clear h;go_enter func182,ntmps182;exact BU
 .obtain⟨D,E,cs,b,h1,h2,_⟩:=h;injection b with b _ z;subst b z;have heq:=Lib.run_eql_slice_nil (P:=prog) w 250 274 (some k) l.length c 0 0 underlying250;have d:Below w.heap.size w (w.alloc (.cells #[] 274)):=(Below.refl _ _).alloc (lR _) _;have g:=aA (World.ownsRow_made (e:=274) w #[] 0 (lR _) (by simp[maxLen]) rfl:(w.alloc (.cells #[] 274)).ownsRow w.heap.size 274 7 (.slice (some ⟨w.heap.size,0,none⟩) 0 0) 0 []);have s:=aA (h2.len (fun _ _ f=>dU.len f));have t:=aA (h2.aEf (fun _ _ f=>dU.one f));obtain⟨y,r,q,j⟩:=dI (h1.lt.below d) h2 d n;clear h1 h2 d n;go_enter func182,ntmps182;go_wp2_with (at_builtin;refine fR aC9 rfl (.tmp 5) (.tmp 6) rfl w.heap.size (.slice (some ⟨w.heap.size,0,none⟩) 0 0) 0 [] rfl g.o (some k) l.length c cs rfl s.o (y.o.more qs) t.o (by have:=j.o;unfold maxLen;omega) (qA j.o) qs ?_;intro C c1 w1 p m A;have i:=aA (eA g.o q.o m (lR _) qs);have x:=aA p;clear p m A)
  go_returns;have o:=x.o;simp only[Nat.zero_add,List.nil_append] at o ⊢;exact⟨_,rfl,lQ dU r.o i.o o,i.o⟩
theorem YJ{ok:nP}(v:Value)(l:List Ru)(w:World)(h:aH yP w ok v l):Calls prog 180 #[v] w (bV yP 5 252 ok l w):=by
 obtain⟨a,c,rfl,n⟩:=h.slice;unfold bV
 rcases a with _|k
 .have B:=kJ bL qe h;subst B;have heq:=Lib.run_eql_slice_nil (P:=prog) w 46 252 none 0 c 0 0 underlying46;clear h;go_enter func180,ntmps180;exact BU
 .obtain⟨D,E,cs,b,h1,h2,_⟩:=h;injection b with b _ z;subst b z;have heq:=Lib.run_eql_slice_nil (P:=prog) w 46 252 (some k) l.length c 0 0 underlying46;have d:Below w.heap.size w (w.alloc (.cells #[] 252)):=(Below.refl _ _).alloc (lR _) _;have g:=aA (World.ownsRow_made (e:=252) w #[] 0 (lR _) (by simp[maxLen]) rfl:(w.alloc (.cells #[] 252)).ownsRow w.heap.size 252 5 (.slice (some ⟨w.heap.size,0,none⟩) 0 0) 0 []);have s:=aA (h2.len (fun _ _ f=>bL.len f));have t:=aA (h2.aEf (fun _ _ f=>bL.one f));obtain⟨y,r,q,j⟩:=dI (h1.lt.below d) h2 d n;clear h1 h2 d n;go_enter func180,ntmps180;go_wp2_with (at_builtin;refine fR aDa rfl (.tmp 5) (.tmp 6) rfl w.heap.size (.slice (some ⟨w.heap.size,0,none⟩) 0 0) 0 [] rfl g.o (some k) l.length c cs rfl s.o (y.o.more qs) t.o (by have:=j.o;unfold maxLen;omega) (qA j.o) qs ?_;intro C c1 w1 p m A;have i:=aA (eA g.o q.o m (lR _) qs);have x:=aA p;clear p m A)
  go_returns;have o:=x.o;simp only[Nat.zero_add,List.nil_append] at o ⊢;exact⟨_,rfl,lQ bL r.o i.o o,i.o⟩
theorem YK{n:Nat}{ok:nP}(v:Value)(l:List Po)(w:World)(h:aH (qM n) w ok v l):Calls prog 181 #[v] w (bV (qM n) 7 50 ok l w):=by
 obtain⟨a,c,rfl,o⟩:=h.slice;unfold bV
 rcases a with _|k
 .have C:=kJ (bB n) qe h;subst C;have heq:=Lib.run_eql_slice_nil (P:=prog) w 47 50 none 0 c 0 0 underlying47;clear h;go_enter func181,ntmps181;exact BU
 .obtain⟨E,F,cs,b,h1,h2,_⟩:=h;injection b with b _ A;subst b A;have heq:=Lib.run_eql_slice_nil (P:=prog) w 47 50 (some k) l.length c 0 0 underlying47;have d:Below w.heap.size w (w.alloc (.cells #[] 50)):=(Below.refl _ _).alloc (lR _) _;have g:=aA (World.ownsRow_made (e:=50) w #[] 0 (lR _) (by simp[maxLen]) rfl:(w.alloc (.cells #[] 50)).ownsRow w.heap.size 50 7 (.slice (some ⟨w.heap.size,0,none⟩) 0 0) 0 []);have t:=aA (h2.len (fun _ _ f=>(bB n).len f));have x:=aA (h2.aEf (fun _ _ f=>(bB n).one f));obtain⟨z,s,r,j⟩:=dI (h1.lt.below d) h2 d o;clear h1 h2 d o;go_enter func181,ntmps181;go_wp2_with (at_builtin;refine fR aDb rfl (.tmp 5) (.tmp 6) rfl w.heap.size (.slice (some ⟨w.heap.size,0,none⟩) 0 0) 0 [] rfl g.o (some k) l.length c cs rfl t.o (z.o.more qs) x.o (by have:=j.o;unfold maxLen;omega) (qA j.o) qs ?_;intro D c1 w1 q m B;have i:=aA (eA g.o r.o m (lR _) qs);have y:=aA q;clear q m B)
  go_returns;have p:=y.o;simp only[Nat.zero_add,List.nil_append] at p ⊢;exact⟨_,rfl,lQ (bB n) s.o i.o p,i.o⟩
theorem Il(a b:bY):(!Op.bytesLess a.toList b.toList)=gW b a:=by
 rw[wH];unfold gW;by_cases h:a.toList<b.toList
 .rw[dX h,dF (fun k=>k h)];rfl
 .rw[dF h,dX h];rfl
theorem Im(x:cH)(a la:oD)(b lc:Nat)(p:Nat)(N:bY)(w:World)(hp:jF w p 0 (.string N)):Calls prog 114 #[.agg #[.string x.id,.string x.aEa,.string x.aD2,.slice a x.aDM.length b,.slice la x.log.length lc],.pointer (some ⟨p,0,none⟩)] w (aP (.bool (gW N x.id)) w):=by
 unfold aP;have h1:p≠w.heap.size:=qA hp.2;obtain⟨hp,c⟩:=hp;go_enter func114,ntmps114;go_wp2;go_returns;exact⟨bH (Il x.id N),aB _ _⟩
theorem Df(x:pY)(p:Nat)(N:bY)(w:World)(hp:jF w p 0 (.string N)):Calls prog 83 #[.agg #[.string x.1,.int .i64 x.2.1,.int .i64 x.2.2.1,.string x.2.2.2],.pointer (some ⟨p,0,none⟩)] w (aP (.bool (decide (x.1=N))) w):=by
 unfold aP;have h1:p≠w.heap.size:=qA hp.2;obtain⟨hp,a⟩:=hp;go_enter func83,ntmps83;go_wp2;go_returns;exact⟨bH (jJ x.1 N),aB _ _⟩
theorem Dg(x:pY)(p:Nat)(N:bY)(w:World)(hp:jF w p 0 (.string N)):Calls prog 133 #[.agg #[.string x.1,.int .i64 x.2.1,.int .i64 x.2.2.1,.string x.2.2.2],.pointer (some ⟨p,0,none⟩)] w (aP (.bool (gW N x.1)) w):=by
 unfold aP;have h1:p≠w.heap.size:=qA hp.2;obtain⟨hp,a⟩:=hp;go_enter func133,ntmps133;go_wp2;go_returns;exact⟨bH (Il x.1 N),aB _ _⟩
theorem Io(x:uC)(p:Nat)(N:bY)(w:World)(hp:jF w p 0 (.string N)):Calls prog 177 #[.agg #[.int .i64 x.aDP,.string x.aEg,.string x.aEO],.pointer (some ⟨p,0,none⟩)] w (aP (.bool (decide (x.aEg=N))) w):=by
 unfold aP;have h1:p≠w.heap.size:=qA hp.2;obtain⟨hp,a⟩:=hp;go_enter func177,ntmps177;go_wp2;go_returns;exact⟨bH (jJ x.aEg N),aB _ _⟩
theorem Ip(x:cH)(a la:oD)(b lc:Nat)(p:Nat)(N:bY)(w:World)(hp:jF w p 2 (.string N)):Calls prog 137 #[.agg #[.string x.id,.string x.aEa,.string x.aD2,.slice a x.aDM.length b,.slice la x.log.length lc],.pointer (some ⟨p,0,none⟩)] w (aP (.bool (decide (x.id=N))) w):=by
 unfold aP;have h1:p≠w.heap.size:=qA hp.2;obtain⟨hp,c⟩:=hp;go_enter func137,ntmps137;go_wp2;go_returns;exact⟨bH (jJ x.id N),aB _ _⟩
theorem Iq(x:cH)(a la:oD)(b lc:Nat)(w:World):Calls prog 86 #[.agg #[.string x.id,.string x.aEa,.string x.aD2,.slice a x.aDM.length b,.slice la x.log.length lc]] w (aP (.bool (decide (256<x.log.length))) w):=by
 unfold aP;go_enter func86,ntmps86;go_wp2;go_returns;exact⟨bH (by rw[Bool.eq_iff_iff];simp;omega),aB _ _⟩
theorem Dh(x:Ob)(p:Nat)(N:bY)(w:World)(hp:jF w p 0 (.string N)):Calls prog 80 #[.agg #[.int .i64 x.on,.int .i64 x.aDG,.string x.arg],.pointer (some ⟨p,0,none⟩)] w (aP (.bool (decide (x.aDG=2)&&decide (x.arg=N))) w):=by
 unfold aP;have h1:p≠w.heap.size:=qA hp.2;obtain⟨hp,e⟩:=hp;obtain⟨f,b,d⟩:=x;dsimp only;go_enter func80,ntmps80;by_cases a:b=2
 .have c:(b==2)=true:=bQ.2 a;go_wp2;go_returns;refine⟨bH ?_,aB _ _⟩;rw[dX a,Bool.true_and];exact jJ d N
 .have c:(b==2)=false:=bN.2 a;go_wp2;go_returns;refine⟨bH ?_,aB _ _⟩;rw[dF a];rfl
theorem Ir(x:wF)(p q:Nat)(N:bY)(T:Int)(w:World)(hp:jF w p 0 (.string N))(b:jF w q 0 (.int .i64 T))(e:0<=x.aDP/\x.aDP<=T/\T<=1099511627776):Calls prog 21 #[.agg #[.int .i64 x.id,.int .i64 x.aDP,.string x.aDW,.string x.aDN,.string x.action,.string x.aD4,.bool x.open_],.pointer (some ⟨p,0,none⟩),.pointer (some ⟨q,0,none⟩)] w (aP (.bool (decide (x.aDW=N)&&(x.open_&&decide (100<=T - x.aDP)))) w):=by
 unfold aP;have h1:p≠w.heap.size:=qA hp.2;have h2:q≠w.heap.size:=qA b.2;obtain⟨hp,g⟩:=hp;obtain⟨b,i⟩:=b;obtain⟨j,k,c,l,m,n,f⟩:=x;dsimp only at e ⊢;go_enter func21,ntmps21;by_cases a:c=N
 .have d:(c.toList==N.toList)=true:=by rw[jJ];exact dX a
  cases f
  .go_wp2;go_returns;exact⟨bH (by rw[dX a];rfl),aB _ _⟩
  .go_wp2;go_returns;exact⟨bH (by rw[dX a];simp),aB _ _⟩
 .have d:(c.toList==N.toList)=false:=by rw[jJ];exact dF a
  go_wp2;go_returns;exact⟨bH (by rw[dF a];rfl),aB _ _⟩
theorem YL{ok:nP}(v:Value)(l:List cH)(N:bY)(p:Nat)(w:World)(h:aH qI w ok v l)(m:jF w p 0 (.string N)):Calls prog 113 #[v,.func (.func 114) #[] #[.pointer (some ⟨p,0,none⟩)]] w (aP (.int .i64 (eX (fun x=>gW N x.id) l)) w):=by
 obtain⟨a,c,rfl,B⟩:=h.slice;have s:=aA h;have o:=aA (fun wr (t:Below w.heap.size w wr)=>(m.on t:jF wr p 0 (.string N)));clear h m;obtain⟨PR,d⟩:∃PR:cH->Bool,PR=(fun x=>gW N x.id):=⟨_,rfl⟩;have q:=aA d;rw[<-d];clear d;unfold aP;go_enter func113,ntmps113;go_wp2;go_loopw [5,8] (fun _ i wr=>∃k:Nat,k<=l.length/\i=.int .i64 k/\Hid (∀i (hi:i<l.length),i<k->PR l[i]=false)/\Hid (Below w.heap.size w wr)) (fun _ i _=>l.length - (intOf i).toNat)
 case atStart=>exact BS
 case round=>
  obtain⟨k,A,rfl,HR,HB⟩:=hrel;by_cases hlt:k<l.length
  .have hk1:(k:Int)<(l.length:Int):=qo;obtain⟨b,off,r,rfl,_,z,⟨C,D,rfl,n⟩,hcl⟩:=aH.at dY (s.o.on dY HB.o) hlt qe;obtain⟨f,j,rfl,_⟩:=n.2.2.2.1.slice;obtain⟨la,lc,rfl,_⟩:=n.2.2.2.2.slice;obtain⟨y,E,F,G,H⟩:=KK hcl;rw[Nat.add_zero] at y;have HI:Hid (Calls prog 114 #[.agg #[.string l[k].id,.string l[k].aEa,.string l[k].aD2,.slice f l[k].aDM.length j,.slice la l[k].log.length lc],.pointer (some ⟨p,0,none⟩)] wr (aP (.bool (PR l[k])) wr)):=by rw[q.o];exact aA (Im l[k] f la j lc p N wr (o.o wr HB.o))
   exact KU
  .exact KT
theorem UI{ok:nP}(v:Value)(l:List pY)(N:bY)(p:Nat)(w:World)(h:aH lN w ok v l)(f:jF w p 0 (.string N)):Calls prog 82 #[v,.func (.func 83) #[] #[.pointer (some ⟨p,0,none⟩)]] w (aP (.int .i64 (eX (fun x=>decide (x.1=N)) l)) w):=by
 obtain⟨a,c,rfl,z⟩:=h.slice;have n:=aA h;have j:=aA (fun wr (o:Below w.heap.size w wr)=>(f.on o:jF wr p 0 (.string N)));clear h f;obtain⟨PR,d⟩:∃PR:pY->Bool,PR=(fun x=>decide (x.1=N)):=⟨_,rfl⟩;have m:=aA d;rw[<-d];clear d;unfold aP;go_enter func82,ntmps82;go_wp2;go_loopw [5,8] (fun _ i wr=>∃k:Nat,k<=l.length/\i=.int .i64 k/\Hid (∀i (hi:i<l.length),i<k->PR l[i]=false)/\Hid (Below w.heap.size w wr)) (fun _ i _=>l.length - (intOf i).toNat)
 case atStart=>exact BS
 case round=>
  obtain⟨k,y,rfl,HR,HB⟩:=hrel;by_cases hlt:k<l.length
  .have hk1:(k:Int)<(l.length:Int):=qo;obtain⟨b,off,r,rfl,_,s,⟨rfl,t⟩,hcl⟩:=aH.at bP (n.o.on bP HB.o) hlt qe;obtain⟨q,A,B,C⟩:=Hd hcl;rw[Nat.add_zero] at q;have HI:Hid (Calls prog 83 #[.agg #[.string l[k].1,.int .i64 l[k].2.1,.int .i64 l[k].2.2.1,.string l[k].2.2.2],.pointer (some ⟨p,0,none⟩)] wr (aP (.bool (PR l[k])) wr)):=by rw[m.o];exact aA (Df l[k] p N wr (j.o wr HB.o))
   exact KU
  .exact KT
theorem UJ{ok:nP}(v:Value)(l:List pY)(N:bY)(p:Nat)(w:World)(h:aH lN w ok v l)(f:jF w p 0 (.string N)):Calls prog 82 #[v,.func (.func 133) #[] #[.pointer (some ⟨p,0,none⟩)]] w (aP (.int .i64 (eX (fun x=>gW N x.1) l)) w):=by
 obtain⟨a,c,rfl,z⟩:=h.slice;have n:=aA h;have j:=aA (fun wr (o:Below w.heap.size w wr)=>(f.on o:jF wr p 0 (.string N)));clear h f;obtain⟨PR,d⟩:∃PR:pY->Bool,PR=(fun x=>gW N x.1):=⟨_,rfl⟩;have m:=aA d;rw[<-d];clear d;unfold aP;go_enter func82,ntmps82;go_wp2;go_loopw [5,8] (fun _ i wr=>∃k:Nat,k<=l.length/\i=.int .i64 k/\Hid (∀i (hi:i<l.length),i<k->PR l[i]=false)/\Hid (Below w.heap.size w wr)) (fun _ i _=>l.length - (intOf i).toNat)
 case atStart=>exact BS
 case round=>
  obtain⟨k,y,rfl,HR,HB⟩:=hrel;by_cases hlt:k<l.length
  .have hk1:(k:Int)<(l.length:Int):=qo;obtain⟨b,off,r,rfl,_,s,⟨rfl,t⟩,hcl⟩:=aH.at bP (n.o.on bP HB.o) hlt qe;obtain⟨q,A,B,C⟩:=Hd hcl;rw[Nat.add_zero] at q;have HI:Hid (Calls prog 133 #[.agg #[.string l[k].1,.int .i64 l[k].2.1,.int .i64 l[k].2.2.1,.string l[k].2.2.2],.pointer (some ⟨p,0,none⟩)] wr (aP (.bool (PR l[k])) wr)):=by rw[m.o];exact aA (Dg l[k] p N wr (j.o wr HB.o))
   exact KU
  .exact KT
theorem YM{ok:nP}(v:Value)(l:List uC)(N:bY)(p:Nat)(w:World)(h:aH mZ w ok v l)(f:jF w p 0 (.string N)):Calls prog 221 #[v,.func (.func 177) #[] #[.pointer (some ⟨p,0,none⟩)]] w (aP (.int .i64 (eX (fun x=>decide (x.aEg=N)) l)) w):=by
 obtain⟨a,c,rfl,z⟩:=h.slice;have n:=aA h;have j:=aA (fun wr (o:Below w.heap.size w wr)=>(f.on o:jF wr p 0 (.string N)));clear h f;obtain⟨PR,d⟩:∃PR:uC->Bool,PR=(fun x=>decide (x.aEg=N)):=⟨_,rfl⟩;have m:=aA d;rw[<-d];clear d;unfold aP;go_enter func221,ntmps221;go_wp2;go_loopw [5,8] (fun _ i wr=>∃k:Nat,k<=l.length/\i=.int .i64 k/\Hid (∀i (hi:i<l.length),i<k->PR l[i]=false)/\Hid (Below w.heap.size w wr)) (fun _ i _=>l.length - (intOf i).toNat)
 case atStart=>exact BS
 case round=>
  obtain⟨k,y,rfl,HR,HB⟩:=hrel;by_cases hlt:k<l.length
  .have hk1:(k:Int)<(l.length:Int):=qo;obtain⟨b,off,r,rfl,_,s,⟨rfl,t⟩,hcl⟩:=aH.at cD (n.o.on cD HB.o) hlt qe;obtain⟨q,A,B⟩:=cR3 hcl;rw[Nat.add_zero] at q;have HI:Hid (Calls prog 177 #[.agg #[.int .i64 l[k].aDP,.string l[k].aEg,.string l[k].aEO],.pointer (some ⟨p,0,none⟩)] wr (aP (.bool (PR l[k])) wr)):=by rw[m.o];exact aA (Io l[k] p N wr (j.o wr HB.o))
   exact KU
  .exact KT
theorem YN{ok:nP}(v:Value)(l:List cH)(N:bY)(p:Nat)(w:World)(h:aH qI w ok v l)(m:jF w p 2 (.string N)):Calls prog 113 #[v,.func (.func 137) #[] #[.pointer (some ⟨p,0,none⟩)]] w (aP (.int .i64 (eX (fun x=>decide (x.id=N)) l)) w):=by
 obtain⟨a,c,rfl,B⟩:=h.slice;have s:=aA h;have o:=aA (fun wr (t:Below w.heap.size w wr)=>(m.on t:jF wr p 2 (.string N)));clear h m;obtain⟨PR,d⟩:∃PR:cH->Bool,PR=(fun x=>decide (x.id=N)):=⟨_,rfl⟩;have q:=aA d;rw[<-d];clear d;unfold aP;go_enter func113,ntmps113;go_wp2;go_loopw [5,8] (fun _ i wr=>∃k:Nat,k<=l.length/\i=.int .i64 k/\Hid (∀i (hi:i<l.length),i<k->PR l[i]=false)/\Hid (Below w.heap.size w wr)) (fun _ i _=>l.length - (intOf i).toNat)
 case atStart=>exact BS
 case round=>
  obtain⟨k,A,rfl,HR,HB⟩:=hrel;by_cases hlt:k<l.length
  .have hk1:(k:Int)<(l.length:Int):=qo;obtain⟨b,off,r,rfl,_,z,⟨C,D,rfl,n⟩,hcl⟩:=aH.at dY (s.o.on dY HB.o) hlt qe;obtain⟨f,j,rfl,_⟩:=n.2.2.2.1.slice;obtain⟨la,lc,rfl,_⟩:=n.2.2.2.2.slice;obtain⟨y,E,F,G,H⟩:=KK hcl;rw[Nat.add_zero] at y;have HI:Hid (Calls prog 137 #[.agg #[.string l[k].id,.string l[k].aEa,.string l[k].aD2,.slice f l[k].aDM.length j,.slice la l[k].log.length lc],.pointer (some ⟨p,0,none⟩)] wr (aP (.bool (PR l[k])) wr)):=by rw[q.o];exact aA (Ip l[k] f la j lc p N wr (o.o wr HB.o))
   exact KU
  .exact KT
theorem YO{ok:nP}(v:Value)(l:List cH)(w:World)(h:aH qI w ok v l)(p:True):Calls prog 113 #[v,.func (.func 86) #[] #[]] w (aP (.int .i64 (eX (fun x=>decide (256<x.log.length)) l)) w):=by
 obtain⟨a,c,rfl,A⟩:=h.slice;have o:=aA h;have s:=aA (fun wr (t:Below w.heap.size w wr)=>(trivial:True));clear h p;obtain⟨PR,d⟩:∃PR:cH->Bool,PR=(fun x=>decide (256<x.log.length)):=⟨_,rfl⟩;have n:=aA d;rw[<-d];clear d;unfold aP;go_enter func113,ntmps113;go_wp2;go_loopw [5,8] (fun _ i wr=>∃k:Nat,k<=l.length/\i=.int .i64 k/\Hid (∀i (hi:i<l.length),i<k->PR l[i]=false)/\Hid (Below w.heap.size w wr)) (fun _ i _=>l.length - (intOf i).toNat)
 case atStart=>exact BS
 case round=>
  obtain⟨k,z,rfl,HR,HB⟩:=hrel;by_cases hlt:k<l.length
  .have hk1:(k:Int)<(l.length:Int):=qo;obtain⟨b,off,r,rfl,_,y,⟨B,C,rfl,m⟩,hcl⟩:=aH.at dY (o.o.on dY HB.o) hlt qe;obtain⟨f,j,rfl,_⟩:=m.2.2.2.1.slice;obtain⟨la,lc,rfl,_⟩:=m.2.2.2.2.slice;obtain⟨q,D,E,F,G⟩:=KK hcl;rw[Nat.add_zero] at q;have HI:Hid (Calls prog 86 #[.agg #[.string l[k].id,.string l[k].aEa,.string l[k].aD2,.slice f l[k].aDM.length j,.slice la l[k].log.length lc],] wr (aP (.bool (PR l[k])) wr)):=by rw[n.o];exact aA (Iq l[k] f la j lc wr)
   exact KU
  .exact KT
theorem UK{ok:nP}(v:Value)(l:List Ob)(N:bY)(p:Nat)(w:World)(h:aH kB w ok v l)(f:jF w p 0 (.string N)):Calls prog 135 #[v,.func (.func 80) #[] #[.pointer (some ⟨p,0,none⟩)]] w (aP (.int .i64 (eX (fun x=>decide (x.aDG=2)&&decide (x.arg=N)) l)) w):=by
 obtain⟨a,c,rfl,z⟩:=h.slice;have n:=aA h;have j:=aA (fun wr (o:Below w.heap.size w wr)=>(f.on o:jF wr p 0 (.string N)));clear h f;obtain⟨PR,d⟩:∃PR:Ob->Bool,PR=(fun x=>decide (x.aDG=2)&&decide (x.arg=N)):=⟨_,rfl⟩;have m:=aA d;rw[<-d];clear d;unfold aP;go_enter func135,ntmps135;go_wp2;go_loopw [5,8] (fun _ i wr=>∃k:Nat,k<=l.length/\i=.int .i64 k/\Hid (∀i (hi:i<l.length),i<k->PR l[i]=false)/\Hid (Below w.heap.size w wr)) (fun _ i _=>l.length - (intOf i).toNat)
 case atStart=>exact BS
 case round=>
  obtain⟨k,y,rfl,HR,HB⟩:=hrel;by_cases hlt:k<l.length
  .have hk1:(k:Int)<(l.length:Int):=qo;obtain⟨b,off,r,rfl,_,s,⟨rfl,t⟩,hcl⟩:=aH.at aO (n.o.on aO HB.o) hlt qe;obtain⟨q,A,B⟩:=cR3 hcl;rw[Nat.add_zero] at q;have HI:Hid (Calls prog 80 #[.agg #[.int .i64 l[k].on,.int .i64 l[k].aDG,.string l[k].arg],.pointer (some ⟨p,0,none⟩)] wr (aP (.bool (PR l[k])) wr)):=by rw[m.o];exact aA (Dh l[k] p N wr (j.o wr HB.o))
   exact KU
  .exact KT
theorem YP{ok:nP}(v:Value)(l:List wF)(N:bY)(T:Int)(p q:Nat)(w:World)(h:aH tB w ok v l)(d:jF w p 0 (.string N)/\jF w q 0 (.int .i64 T)/\(∀x∈l,0<=x.aDP/\x.aDP<=T/\T<=1099511627776)):Calls prog 54 #[v,.func (.func 21) #[] #[.pointer (some ⟨p,0,none⟩),.pointer (some ⟨q,0,none⟩)]] w (aP (.int .i64 (eX (fun x=>decide (x.aDW=N)&&(x.open_&&decide (100<=T - x.aDP))) l)) w):=by
 obtain⟨a,c,rfl,A⟩:=h.slice;have o:=aA h;have f:=aA (fun wr (m:Below w.heap.size w wr)=>(⟨d.1.on m,d.2.1.on m,d.2.2⟩:jF wr p 0 (.string N)/\jF wr q 0 (.int .i64 T)/\(∀x∈l,0<=x.aDP/\x.aDP<=T/\T<=1099511627776)));clear h d;obtain⟨PR,j⟩:∃PR:wF->Bool,PR=(fun x=>decide (x.aDW=N)&&(x.open_&&decide (100<=T - x.aDP))):=⟨_,rfl⟩;have n:=aA j;rw[<-j];clear j;unfold aP;go_enter func54,ntmps54;go_wp2;go_loopw [5,8] (fun _ i wr=>∃k:Nat,k<=l.length/\i=.int .i64 k/\Hid (∀i (hi:i<l.length),i<k->PR l[i]=false)/\Hid (Below w.heap.size w wr)) (fun _ i _=>l.length - (intOf i).toNat)
 case atStart=>exact BS
 case round=>
  obtain⟨k,z,rfl,HR,HB⟩:=hrel;by_cases hlt:k<l.length
  .have hk1:(k:Int)<(l.length:Int):=qo;obtain⟨b,off,r,rfl,_,t,⟨rfl,y⟩,hcl⟩:=aH.at cV (o.o.on cV HB.o) hlt qe;obtain⟨s,B,C,D,E,F,G⟩:=CR hcl;rw[Nat.add_zero] at s;have HI:Hid (Calls prog 21 #[.agg #[.int .i64 l[k].id,.int .i64 l[k].aDP,.string l[k].aDW,.string l[k].aDN,.string l[k].action,.string l[k].aD4,.bool l[k].open_],.pointer (some ⟨p,0,none⟩),.pointer (some ⟨q,0,none⟩)] wr (aP (.bool (PR l[k])) wr)):=by rw[n.o];exact aA (Ir l[k] p q N T wr (f.o wr HB.o).1 (f.o wr HB.o).2.1 ((f.o wr HB.o).2.2 _ (List.getElem_mem hlt)))
   exact KU
  .exact KT
theorem Tp{p:Prop}(h:p:=by
 go_wp2;go_returns;exact⟨by rw[<-HE.o];rfl,HB.o⟩):p:=h
theorem QCh{p:Prop}(h:p:=by
 go_wp2_with fail;refine HI.o.mono ?_;rintro e w1 ⟨rfl,hb_⟩;have HB1:=qB HB0 hb_;clear hb_ HI;go_wp2;go_returns;exact⟨by rw[<-HA.o];rfl,HB1.o⟩):p:=h
theorem QCf{p:Prop}(h:p:=by
 have HF:=aA (HL.o true rfl);clear HL;go_wp2;go_returns;exact⟨by have:=HF.o;rw[iP trivial] at this;rw[this];rfl,HB0.o.trans (HB'.o.mono HB0.o.size)⟩):p:=h
theorem QBN{p:Prop}(h:p:=by
 have hk1:¬(k:Int)<(l.length:Int):=qo;obtain rfl:k=l.length:=qo;have HF:=aA (PM HR.o);clear HR;go_wp2;go_returns;exact⟨by rw[HF.o];rfl,HB0.o.trans (HB.o.mono HB0.o.size)⟩):p:=h
theorem Tq{p:Prop}(h:p:=by
 refine HI.o.mono ?_;rintro e w1 ⟨rfl,hb_⟩;have HB1:=qB HB0 hb_;clear hb_ HI;go_wp2;go_returns;exact⟨rfl,HB1.o⟩):p:=h
theorem DK{a b:bY}:a.toList=b.toList↔a=b:=⟨fun h=>by rw[Lib.toList_data,Lib.toList_data] at h;exact ByteArray.ext (Array.ext' h),fun h=>by rw[h]⟩
def DL(m:Ma)(v:V3)(w:World)(e:Ending)(w':World):Prop:=e=.returned (.tuple #[.bool (gZ m v).1,.int .i64 (gZ m v).2])/\Below w.heap.size w w'
theorem YQ(m:Ma)(v:V3)(hm:tZ m)(j:cR v)(w:World):Calls prog 220 #[kU m,dE v] w (DL m v w):=by
 have b:=aA (fun w=>DF v m.val j hm.2.2 w);have c:=aA (fun w=>DF m.val v hm.2.2 j w);obtain⟨⟨ac,i,am⟩,op,mk,a,ms⟩:=m;obtain⟨vk,vn,vs⟩:=v;have k:=aA (aC (aB w (.cells #[.int .i64 ac,.string i,.bool am,.int .i64 op,.int .i64 mk,.int .i64 a,.string ms] 262)) (aB _ (.cells #[.int .i64 vk,.int .i64 vn,.string vs] 34)));unfold tE dE at b c;unfold dE kU;simp only at b c ⊢;clear hm j;by_cases h1:op=1
 .have d1:(op==1)=true:=bQ.2 h1;have H1:=aA h1;clear h1 b c;go_enter func220,ntmps220;go_wp2
  all_goals go_returns
  all_goals
   unfold DL gZ;simp only[H1.o,if_true];refine⟨?_,aC (aB _ _) (aB _ _)⟩
   simp_all [DK]
 .have d1:(op==1)=false:=bN.2 h1;by_cases h2:op=2
  .have d2:(op==2)=true:=bQ.2 h2;have g:Hid (gZ ⟨⟨ac,i,am⟩,op,mk,a,ms⟩ (vk,vn,vs)=jZ (vk,vn,vs) (mk,a,ms)):=aA (by unfold gZ;simp only[iN h1,iP h2]);generalize jZ (vk,vn,vs) (mk,a,ms)=r at *;obtain⟨l,n⟩:=r;clear h1 h2 c;go_enter func220,ntmps220;go_wp2_with fail;refine(b.o _).mono ?_;rintro e w1 ⟨rfl,d⟩;have f:=qB k d;clear d b;go_wp2;go_returns;unfold DL;rw[g.o];exact⟨rfl,f.o⟩
  .have d2:(op==2)=false:=bN.2 h2;have g:Hid (gZ ⟨⟨ac,i,am⟩,op,mk,a,ms⟩ (vk,vn,vs)=jZ (mk,a,ms) (vk,vn,vs)):=aA (by unfold gZ;simp only[iN h1,iN h2]);generalize jZ (mk,a,ms) (vk,vn,vs)=r at *;obtain⟨l,n⟩:=r;clear h1 h2 b;go_enter func220,ntmps220;go_wp2_with fail;refine(c.o _).mono ?_;rintro e w1 ⟨rfl,d⟩;have f:=qB k d;clear d c;go_wp2;go_returns;unfold DL;rw[g.o];exact⟨rfl,f.o⟩
theorem RZ{m:Ma}{l:List V3}{k out R:Nat}(a:k<l.length)(h:mL m (l.drop k) out=R):(if (gZ m l[k]).1=true then 2 else mL m (l.drop (k+1)) (if (gZ m l[k]).2≠0 then 1 else out))=R:=by
 rw[List.drop_eq_getElem_cons a] at h;exact h
theorem KV{ok:nP}(m:Ma)(hm:tZ m)(F:Value)(g:List Gv)(w:World)(h:aH jS w ok F g):Calls prog 175 #[kU m,F] w (aP (.int .i64 (lY g m:Nat)) w):=by
 have t:=aA (aB w (.cells (KN m) 262));have G:=aA (aK w (.cells (KN m) 262) _ rfl);have j:=aA (UF F g m.aD7 _ (h.on cA t.o));have B:=aA (fun v T w=>YQ m v hm T w);obtain⟨a,c,rfl,ad⟩:=h.slice;unfold aP lY kU;unfold tG oM at j;unfold DL kU dE at B;clear h hm;obtain⟨bag,J,L⟩:∃b e,qE g m.aD7=(b,e):=⟨_,_,rfl⟩;rw[L] at j ⊢;clear L;simp only at j ⊢;by_cases he:J=0
 case neg=>
  rw[iP he];have d:(J != 0)=true:=bne_iff_ne.2 he;clear he B;go_enter func175,ntmps175;go_wp2_with fail;refine j.o.mono ?_;rintro e w1 ⟨v,rfl,q,f⟩;have l:=qB t f;clear q f j;go_wp2;go_returns;exact⟨rfl,l.o⟩
 subst he;rw[iN (fun h=>h rfl)];obtain⟨res,E⟩:=xE (mL m bag 0);rw[<-E];have I:Hid (mL m (bag.drop 0) 0=res):=aA (by rw[List.drop_zero];exact E.symm);clear E;go_enter func175,ntmps175;go_wp2_with fail;refine j.o.mono ?_;rintro e w1 ⟨v,rfl,q,f⟩;obtain⟨l,P,R⟩:=aY (aC t.o f) (aE G.o f) q;obtain⟨ba,bc,rfl,aa⟩:=q.slice;clear q f j G t;go_wp2;go_loopw [7,23] (fun o i wr=>∃k out:Nat,k<=bag.length/\i=.int .i64 k/\o=.int .i64 out/\Hid (mL m (bag.drop k) out=res)/\Hid (Below w1.heap.size w1 wr)) (fun _ i _=>bag.length - (intOf i).toNat)
 case atStart=>exact⟨0,0,Nat.zero_le _,rfl,rfl,I,aA (Below.refl _ _)⟩
 case round=>
  clear I;obtain⟨k,out,hk,rfl,rfl,y,s⟩:=hrel;by_cases N:k<bag.length
  .have S:(k:Int)<(bag.length:Int):=qo;obtain⟨b,off,r,rfl,_,ab,⟨rfl,M⟩,K⟩:=aH.at bG (R.o.on bG s.o) N qe;obtain⟨O,W,X⟩:=cR3 K;rw[Nat.add_zero] at O;have H:=qK P s.o;obtain⟨⟨Y,Z,y2,y3,y4,y5,y6⟩,_⟩:=bI H.o;have U:=aD H.o;have p:=aA (RZ N y.o);have A:=aA (B.o bag[k] M);clear K y M;generalize bag[k]=x at *;generalize gZ m x=r at *;obtain⟨V,z⟩:=r;simp only at A p;go_wp2_with fail;refine(A.o _).mono ?_;rintro e w2 ⟨rfl,f⟩;have C:=aA (aC (aC s.o (aB _ _)) f);clear f A O W X Y Z y2 y3 y4 y5 y6 U
   cases V
   .have n:Hid (mL m (bag.drop (k+1)) (if z≠0 then 1 else out)=res):=p.o;by_cases he:z=0
    .have d2:(z != 0)=false:=by rw[he];rfl
     have D:Hid (mL m (bag.drop (k+1)) out=res):=aA (by have:=n.o;rwa [iN (fun h=>h he)] at this);clear he p n;go_wp2;go_roundw
     case rel=>exact⟨k+1,out,qo,by go_num,rfl,D,C⟩
     case measure=>simp[intOf];omega
    .have d2:(z != 0)=true:=bne_iff_ne.2 he;have D:Hid (mL m (bag.drop (k+1)) 1=res):=aA (by have:=n.o;rwa [iP he] at this);clear he p n;go_wp2;go_roundw
     case rel=>exact⟨k+1,1,qo,by go_num,rfl,D,C⟩
     case measure=>simp[intOf];omega
   .have n:Hid (2=res):=p.o;clear p;go_wp2;go_returns;exact⟨by rw[<-n.o];rfl,l.o.trans (C.o.mono l.o.size)⟩
  .have S:¬(k:Int)<(bag.length:Int):=qo;obtain rfl:k=bag.length:=qo;have Q:Hid (out=res):=aA (by have:=y.o;rwa [List.drop_length] at this);clear y;go_wp2;go_returns;exact⟨by rw[<-Q.o];rfl,l.o.trans (s.o.mono l.o.size)⟩
theorem Zm(p q:Nat)(a:Array TypeId)(t:TypeId)(w:World):(Builtin.min_ a t #[.int .i64 (p:Int),.int .i64 (q:Int)]).run prog w=.ok (.int .i64 ((min p q:Nat):Int)) w:=by
 simp[Builtin.min_,Builtin.min2]
 rcases Nat.lt_or_ge q p with h|h<;>simp[h]<;>omega
theorem aDc(p q:Nat)(a:Array TypeId)(t:TypeId)(w:World):(Builtin.max_ a t #[.int .i64 (p:Int),.int .i64 (q:Int)]).run prog w=.ok (.int .i64 ((max p q:Nat):Int)) w:=by
 simp[Builtin.max_,Builtin.max2]
 rcases Nat.lt_or_ge p q with h|h<;>simp[h]<;>omega
theorem DM{α β:Type}{f:β->α->β}{l:List α}{k:Nat}{out R:β}(a:k<l.length)(h:(l.drop k).foldl f out=R):(l.drop (k+1)).foldl f (f out l[k])=R:=by
 rw[List.drop_eq_getElem_cons a] at h;exact h
theorem JK{α β:Type}{f:β->α->β}{l:List α}{out R:β}(h:(l.drop l.length).foldl f out=R):out=R:=by
 rw[List.drop_length] at h;exact h
theorem Pl{ok ok':nP}(A:Value)(l:List Ma)(z:Value)(g:List Gv)(w:World)(j:aH rV w ok' A l)(h:aH jS w ok z g):Calls prog 213 #[A,z] w (aP (.int .i64 (zL g l:Nat)) w):=by
 obtain⟨a,c,rfl,Q⟩:=h.slice;obtain⟨la,lc,rfl,R⟩:=j.slice;have E:=aA j;have D:=aA h;clear h j;unfold aP zL;obtain⟨res,p⟩:=xE (l.foldl (fun out m=>min out (lY g m)) 2);rw[<-p];have q:Hid ((l.drop 0).foldl (fun out m=>min out (lY g m)) 2=res):=aA (by rw[List.drop_zero];exact p.symm);clear p;go_enter func213,ntmps213;go_wp2;go_loopw [5,10] (fun o i wr=>∃k out:Nat,k<=l.length/\i=.int .i64 k/\o=.int .i64 out/\Hid ((l.drop k).foldl (fun out m=>min out (lY g m)) out=res)/\Hid (Below w.heap.size w wr)) (fun _ i _=>l.length - (intOf i).toNat)
 case atStart=>exact⟨0,2,Nat.zero_le _,rfl,rfl,q,aA (Below.refl _ _)⟩
 case round=>
  clear q;obtain⟨k,out,P,rfl,rfl,d,HB⟩:=hrel;by_cases y:k<l.length
  .have G:(k:Int)<(l.length:Int):=qo;obtain⟨b,off,r,rfl,_,O,⟨rfl,v⟩,t⟩:=aH.at eS (E.o.on eS HB.o) y qe;obtain⟨B,I,J,K,L,M,N⟩:=CR t;rw[Nat.add_zero] at B;have F:=aA (DM y d.o);have f:=aA (KV l[k] v _ g (wr.alloc (.cells #[.int .i64 l[k].aD7.cat,.string l[k].aD7.name,.bool l[k].aD7.aEe,.int .i64 l[k].op,.int .i64 l[k].val.1,.int .i64 l[k].val.2.1,.string l[k].val.2.2] 262)) (D.o.on cA (HB.o.alloc HB.o.size _)));unfold aP kU at f;clear t d v;generalize l[k]=x at *;generalize lY g x=n at *;have H:=Zm out n;go_wp2_with fail;refine f.o.mono ?_;rintro e w2 ⟨rfl,s⟩;have C:=aA (aC (aC HB.o (aB _ _)) s);clear s f B I J K L M N;go_wp2;clear H;go_roundw
   case rel=>exact⟨k+1,min out n,qo,by go_num,rfl,F,C⟩
   case measure=>simp[intOf];omega
  .have G:¬(k:Int)<(l.length:Int):=qo;obtain rfl:k=l.length:=qo;have HE:=aA (JK d.o);clear d;exact Tp
theorem Ar{ok ok':nP}(vt:Value)(t:Ta)(O:Value)(g:List Gv)(w:World)(H:oG w ok' vt t)(h:aH jS w ok O g):Calls prog 171 #[vt,O] w (aP (.int .i64 (rT g t:Nat)) w):=by
 obtain⟨a,c,rfl,aa⟩:=h.slice;obtain⟨ta,tc,rfl,ab⟩:=H.slice;have S:=aA H;have R:=aA h;clear h H;unfold aP rT;obtain⟨F,B⟩:∃F:Nat->List (List Ma)->Nat,F=(fun out l=>min out (l.foldl (fun d x=>max d (zL g x)) 0)):=⟨_,rfl⟩;have Q:=aA B;rw[<-B];clear B;obtain⟨res,D⟩:=xE (t.foldl F 2);rw[<-D];have K:Hid ((t.drop 0).foldl F 2=res):=aA (by rw[List.drop_zero];exact D.symm);clear D;go_enter func171,ntmps171;go_wp2;go_loopw [5,13] (fun o i wr=>∃k out:Nat,k<=t.length/\i=.int .i64 k/\o=.int .i64 out/\Hid ((t.drop k).foldl F out=res)/\Hid (Below w.heap.size w wr)) (fun _ i _=>t.length - (intOf i).toNat)
 case atStart=>exact⟨0,2,Nat.zero_le _,rfl,rfl,K,aA (Below.refl _ _)⟩
 case round=>
  clear K;obtain⟨y,rfl⟩:∃y:World,y=wr:=⟨_,rfl⟩;obtain⟨k,out,hk,rfl,rfl,s,HB⟩:=hrel;by_cases N:k<t.length
  .have V:(k:Int)<(t.length:Int):=qo;obtain⟨b,off,r,rfl,_,Y,⟨vx,rfl,E⟩,f⟩:=aH.at aS (S.o.on aS HB.o) N qe;obtain⟨xa,xc,rfl,_⟩:=E.slice;have m:=f 0 _ rfl;rw[Nat.add_zero,Nat.mul_one] at m;have A:=aA (DM N s.o);have T:=aA E;have I:=aA (show F out t[k]=min out (t[k].foldl (fun d x=>max d (zL g x)) 0) by rw[Q.o]);clear f s E;generalize t[k]=l at *;obtain⟨d,C⟩:=xE (l.foldl (fun d x=>max d (zL g x)) 0);rw[<-C] at I;have J:Hid ((l.drop 0).foldl (fun d x=>max d (zL g x)) 0=d):=aA (by rw[List.drop_zero];exact C.symm);clear C;go_wp2;clear m;go_loopw [8,10,19] (fun o _ i wr=>∃j b:Nat,j<=l.length/\i=.int .i64 j/\o=.int .i64 b/\Hid ((l.drop j).foldl (fun d x=>max d (zL g x)) b=d)/\Hid (Below y.heap.size y wr)) (fun _ _ i _=>l.length - (intOf i).toNat)
   case atStart=>exact⟨0,0,Nat.zero_le _,rfl,rfl,J,aA (Below.refl _ _)⟩
   case round=>
    clear J;obtain⟨j,v,hj,rfl,rfl,q,p⟩:=hrel;by_cases M:j<l.length
    .have U:(j:Int)<(l.length:Int):=qo;obtain⟨b2,ad,r2,rfl,_,Z,⟨vy,rfl,G⟩,f⟩:=aH.at dR (T.o.on dR p.o) M qe;obtain⟨ya,yc,rfl,_⟩:=G.slice;have m:=f 0 _ rfl;rw[Nat.add_zero,Nat.mul_one] at m;have A:=aA (DM M q.o);have z:=aA (Pl _ _ _ g wr G (R.o.on cA (aC HB.o p.o)));unfold aP at z;clear f q G;generalize l[j]=x at *;generalize zL g x=n at *;have W:=aDc v n;go_wp2_with fail;refine z.o.mono ?_;rintro e w2 ⟨rfl,L⟩;have P:=qB p L;clear L z m;go_wp2;clear W;go_roundw
     case rel=>exact⟨j+1,max v n,qo,by go_num,rfl,A,P⟩
     case measure=>simp[intOf];omega
    .have U:¬(j:Int)<(l.length:Int):=qo;obtain rfl:j=l.length:=qo;have HE:=aA (JK q.o);clear q;have X:=Zm out v;go_wp2;clear X;go_roundw
     case rel=>exact⟨k+1,min out v,qo,by go_num,rfl,aA (by have:=A.o;rw[I.o,<-HE.o] at this;exact this),aA (aC HB.o p.o)⟩
     case measure=>simp[intOf];omega
  .have V:¬(k:Int)<(t.length:Int):=qo;obtain rfl:k=t.length:=qo;have HE:=aA (JK s.o);clear s;exact Tp
end Go.Proofs.YtheabjeppmdmiaaGreatDoor
