/- Lemmas. -/
import Derived.Test.YthcgdgkpgdjahaaGreatDoorMah
namespace Go.Proofs.YthcgdgkpgdjahaaGreatDoor
open Go.RowKit
set_option linter.unusedVariables false
set_option linter.unusedSimpArgs false
set_option maxHeartbeats 16000000
open _root_.Go.Proofs.Tryz
set_option maxRecDepth 20000
section
open Pv
abbrev pG(Q:Nat)(a:oD)(m b:Nat)(sy:Int):Obj:= .cells #[.int .i64 (Q:Int),.slice a m b,.int .i64 sy,.int .i64 0,.bool false] 83
theorem Jf(D Q m b:Nat)(a:oD)(sy:Int)(w:World)(c:Q<=2000000)(hm:m<=Q)(h:w.heap[D]? =some (pG Q a m b sy)):Calls prog 105 #[.pointer (some ⟨D,0,none⟩)] w (aP (.int .i64 ((Q:Int) - (m:Int))) w):=by
 obtain⟨⟨d0,d1,d2,d3,d4⟩,_⟩:=dM h;have e:=aD h;have d:IntKind.i64.wrap ((Q:Int) - (m:Int))=(Q:Int) - (m:Int):=IntWalk.i64_in _ qo;go_enter func105,ntmps105;go_upto_region 1 with (fail)
 go_quiet (fail)
 go_wp2;go_ret;exact⟨rfl,gB (Below.refl _ _) ⟨_,rfl⟩⟩
theorem PU(D Q m b:Nat)(a:oD)(sy:Int)(w:World)(h:w.heap[D]? =some (pG Q a m b sy)):Calls prog 107 #[.pointer (some ⟨D,0,none⟩)] w (fun e w'=>e=.returned (.bool false)/\w'=w):=by
 obtain⟨⟨d0,d1,d2,d3,d4⟩,_⟩:=dM h;have c:=aD h;go_enter func107,ntmps107;go_wp2;go_ret;exact⟨rfl,rfl⟩
theorem PV(D Q m c:Nat)(a:oD)(sy:Int)(w:World)(h:w.heap[D]? =some (pG Q a m c sy)):Calls prog 48 #[.pointer (some ⟨D,0,none⟩)] w (fun e w'=>e=.returned (.int .i64 0)/\w'.heap[D]? =some (pG Q a m c (m:Int))/\aN (fun b=>b≠D) w w'):=by
 have d:=aA (PU D Q m c a sy w h);have H:=aA h;obtain⟨⟨d0,d1,d2,d3,d4⟩,f0,f1,f2,f3,f4⟩:=dM h;have f:=aD h;clear h;go_enter func48,ntmps48;go_upto_region 3 with (go_at_call 107;refine d.o.mono ?_;rintro e w1 ⟨rfl,rfl⟩)
 go_wp2;go_ret;exact⟨rfl,aG H.o 2 _,aI _⟩
theorem Bh{w:World}{B:Nat}{a:oD}{n c:Nat}{l:lU}(h:w.ownsRow B 5 1 (.slice a n c) l.length (bF l)):jF w (fun b=>B<=b/\b<w.heap.size) a (bF l):=by
 obtain⟨k,m,e,_,h3,h4⟩:=lX h;injection e with f o p;subst f;intro j;obtain⟨b,off,d,i,g⟩:=h3 j;exact⟨b,off,d,⟨h4 _ d,i⟩,g⟩
theorem YT(D Q k:Nat)(g:oD)(sy:Int)(bs:lU)(a:oD)(c:Nat)(p:lU)(w:World)(C:Q<=1000000)(h:w.heap[D]? =some (pG Q g bs.length k sy))(d:Sl w w.heap.size g (bF bs))(hp:Sl w w.heap.size a (bF p))(h0:0<p.length)(G:bs.length+p.length<=Q):
 Calls prog 46 #[.pointer (some ⟨D,0,none⟩),.slice a p.length c] w (fun e w'=>e=.returned (.int .i64 0)/\(∃(l:lU) (A:oD) (i:Nat),l.length=bs.length+p.length/\w'.heap[D]? =some (pG Q A l.length i sy)/\jF w' (fun b=>w.heap.size<=b/\b<w'.heap.size) A (bF l))/\aN (fun b=>b≠D) w w'):=by
 obtain⟨z,H,B,n⟩:=dH (Jf D Q bs.length k g sy w qo qo h) h (And.intro d hp) (And.intro G (And.intro h0 C));unfold aP at z;have W:¬((Q:Int) - (bs.length:Int)<(p.length:Int)):=qo;obtain⟨⟨d0,d1,d2,d3,d4⟩,_⟩:=dM h;have q:=aD h;clear h d hp G h0 C;go_enter func46,ntmps46;go_wp2_with fail;refine z.o.mono ?_;rintro e w1 ⟨rfl,t⟩;obtain⟨s,o⟩:=xE (w1.alloc (.cells #[.slice g bs.length k,.slice a p.length c] 71));have E:Below w1.heap.size w1 s:=by rw[o];exact aB _ _
 have I:s.heap[w1.heap.size]? =some (.cells #[.slice g bs.length k,.slice a p.length c] 71 (0,0)):=by rw[o];exact aK _ _ _ rfl
 have j:=aA (aC t E);obtain⟨y,H1,T⟩:=aZ (KW _ [bs,p] s (UO (cs:=[.slice g bs.length k,.slice a p.length c]) (c:=2) I ⟨[_],_,rfl,DG (B.o.1.on j.o) (qA n.o),⟨[_],[],rfl,DG (B.o.2.on j.o) (qA n.o),rfl⟩⟩ (by show 2<=1000;omega)) (bs.length+p.length) (by simp only[uL,List.length_cons,List.length_nil,List.take_succ_cons,List.take_zero,List.map_cons,List.map_nil,List.sum_cons,List.sum_nil];omega) (qA n.o) (qA n.o)) (aE H.o t) o;clear o E I d0 d1 d2 d3 d4 q t;obtain⟨⟨d0,d1,d2,d3,d4⟩,_⟩:=dM H1.o;have q:=aD H1.o;go_wp2_with fail;rw[<-T.o];refine y.o.mono ?_;rintro e M ⟨l,A,i,rfl,J,_,K,F⟩;obtain⟨O,P,x⟩:=aZ J (Bh K) (aC j.o F);have r:=qK H x.o;clear J K F d0 d1 d2 d3 d4 q y;obtain⟨⟨d0,d1,d2,d3,d4⟩,f0,f1,f2,f3,f4⟩:=dM r.o;have q:=aD r.o;obtain⟨f,m⟩:=xE (M.setCell ⟨D,1,none⟩ (.slice A l.length i));have v:Hid (f.heap[D]? =some (pG Q A l.length i sy)):=aA (by rw[m];exact aG r.o 1 _);have R:Hid (aN (fun b=>b≠D) w f):=aA (by rw[m];exact(aJ x.o).trans (aI _));have S:Hid (jF f (fun b=>w.heap.size<=b/\b<f.heap.size) A (bF l)):=aA (by
  have L:aN (fun b=>b≠D) M f:=by rw[m];exact aI _
  have V:=aD H.o;exact(P.o.aDW (L.mono fun b _ d e=>qD d.1 j.o.size)).more fun b d=>⟨lT j.o.size d.1,lL d.2 L.size⟩)
 have N:=aA (PU D Q l.length i A sy f v.o);have U:=aA m;clear m;go_wp2_with fail;rw[<-U.o];refine N.o.mono ?_;rintro e X ⟨rfl,rfl⟩;go_wp2;go_ret;exact⟨rfl,⟨l,A,i,O.o,v.o,S.o⟩,R.o⟩
end
section
variable {P:Program} {w:World}
theorem DH(g:Nat)(cs:Array Value):aN (fun b=>b≠g) w (w.setRow g cs):=⟨rfl,rfl,rfl,by simp[World.setRow],fun k _ a=>setRow_other w g k cs a⟩
theorem Jg{o:Oper}{a:Act}{K:Act->World->Prop}{Q:Exit->Act->World->Prop}(ty:TypeId)(x y:Operand)(f:o.op=.store ty x y)(g:Nat)(cells:Array Value)(i:a.eval x=.pointer (some ⟨g,0,none⟩))(j:a.eval y=.agg cells)(t:TypeId)(c:Array Value)(d:w.heap[g]? =some (.cells c t (0,0)))(e:(P.info? ty).map (·.size)=some cells.size)(hold:c.size=cells.size)(h1:cells.all (·.oneCell')=true)
 (h:∀w',Hid (w'.heap[g]? =some (.cells cells t (0,0)))->Hid (aN (fun b=>b≠g) w w')->K (a.put o.dst undef) w'):o.wp P a w K Q:=
 wp_store_row ty x y f g cells i j t c d e hold h1 (h _ (setRow_heap w g c cells t (0,0) d) (DH g cells))
theorem eG{ops:Array Oper}{rest:List Oper}{o:Oper}{a:Act}{Q:Exit->Act->World->Prop}(f:o.guard=none)(ty:TypeId)(x y:Operand)(j:o.op=.store ty x y)(g:Nat)(cells:Array Value)(k:a.eval x=.pointer (some ⟨g,0,none⟩))(l:a.eval y=.agg cells)(t:TypeId)(c:Array Value)(e:w.heap[g]? =some (.cells c t (0,0)))(i:(P.info? ty).map (·.size)=some cells.size)(hold:c.size=cells.size)(h1:cells.all (·.oneCell')=true)
 (h:∀w',Hid (w'.heap[g]? =some (.cells cells t (0,0)))->Hid (aN (fun b=>b≠g) w w')->wpList P ops Q rest (a.put o.dst undef) w'):wpList P ops Q (o::rest) a w:=
 wpList_plain f fun _ d=>Jg ty x y j g cells k l t c e i hold h1 fun w' h2 h3=>d _ _ (h w' h2 h3)
theorem lF{ops:Array Oper}{o:Oper}{a:Act}{K:Act->World->Prop}{Q:Exit->Act->World->Prop}{E:Prop}(e:o.guard=none)(ty:TypeId)(x y:Operand)(i:o.op=.store ty x y)(g:Nat)(cells:Array Value)(j:a.eval x=.pointer (some ⟨g,0,none⟩))(k:a.eval y=.agg cells)(t:TypeId)(c:Array Value)(d:w.heap[g]? =some (.cells c t (0,0)))(f:(P.info? ty).map (·.size)=some cells.size)(hold:c.size=cells.size)(h1:cells.all (·.oneCell')=true)
 (h:∀w',Hid (w'.heap[g]? =some (.cells cells t (0,0)))->Hid (aN (fun b=>b≠g) w w')->K (a.put o.dst undef) w'):if Region.wanted o (yielded ops a.tmps)=true then Oper.wp P o a w K Q else E:=by
 rw[iP (by simp[Region.wanted,e])];exact Jg ty x y i g cells j k t c d f hold h1 h
end
theorem tI{s:bY}(h:s.size<=cQ):s.size<=maxLen:=by unfold cQ at h;unfold maxLen;omega
theorem Ds(k:Int)(w:World):Calls prog 154 #[.int .i64 k] w (aP (.bool (decide (k=3\/k=5))) w):=by
 unfold aP;go_enter func154,ntmps154;go_wp2
 all_goals go_returns
 all_goals exact⟨bH (by rw[Bool.eq_iff_iff];simp[*]<;>(intros;omega)),Below.refl _ _⟩
theorem wL:∀(x y:lU),Op.bytesLess x y=decide (x<y)
 | [],[]=>by simp[Op.bytesLess]
 | [],b::y=>by simp[Op.bytesLess]
 |a::x,[]=>by simp[Op.bytesLess]
 |a::x,b::y=>by
  rw[Op.bytesLess,wL x y,Bool.eq_iff_iff,decide_eq_true_iff,List.cons_lt_cons_iff];simp only[Bool.or_eq_true,Bool.and_eq_true,decide_eq_true_eq,bQ]
def tJ(a b:V3)(w:World)(e:Ending)(w':World):Prop:=e=.returned (.tuple #[.bool (kC a b).1,.int .i64 (kC a b).2])/\Below w.heap.size w w'
theorem DI(a b:V3)(ha:cS a)(J:cS b)(w:World):Calls prog 260 #[dC a,dC b] w (tJ a b w):=by
 obtain⟨d,f,j⟩:=a;obtain⟨g,i,k⟩:=b;have l:=aA (fun w=>nU d f j (tI ha.2.2) w);have m:=aA (fun w=>nU g i k (tI J.2.2) w);unfold lN at l m;unfold dC;simp only;have G:=aA (aC (aB w (.cells #[.int .i64 d,.int .i64 f,.string j] 30)) (aB _ (.cells #[.int .i64 g,.int .i64 i,.string k] 30)));obtain⟨ra,y⟩:∃r,aT (d,f,j)=r:=⟨_,rfl⟩;obtain⟨L,z⟩:∃r,aT (g,i,k)=r:=⟨_,rfl⟩;rw[y] at l;rw[z] at m;have H:=aA y;have I:=aA z;clear ha J y z;have A:=aA (aE (aK w (.cells #[.int .i64 d,.int .i64 f,.string j] 30) _ rfl) (aB (w.alloc (.cells #[.int .i64 d,.int .i64 f,.string j] 30)) (.cells #[.int .i64 g,.int .i64 i,.string k] 30)));have B:Hid (((w.alloc (.cells #[.int .i64 d,.int .i64 f,.string j] 30)).alloc (.cells #[.int .i64 g,.int .i64 i,.string k] 30)).heap[w.heap.size+1]? =some (.cells #[.int .i64 g,.int .i64 i,.string k] 30 (0,0))):=aA (aK (w.alloc (.cells #[.int .i64 d,.int .i64 f,.string j] 30)) (.cells #[.int .i64 g,.int .i64 i,.string k] 30) _ qs)
 cases ra
 .go_enter func260,ntmps260;go_wp2_with fail;refine(l.o _).mono ?_;rintro e w1 ⟨rfl,c⟩;have v:=qB G c;clear c l;go_wp2;go_returns;unfold tJ kC;rw[iP (.inl H.o)];exact⟨rfl,v.o⟩
 .go_enter func260,ntmps260;go_wp2_with fail;refine(l.o _).mono ?_;rintro e w1 ⟨rfl,c⟩;have v:=qB G c
  try clear n o p C
  replace A:=qK A c;obtain⟨⟨n,o,p⟩,_⟩:=cF A.o;have C:=aD A.o
  try clear q s t D
  replace B:=qK B c;obtain⟨⟨q,s,t⟩,_⟩:=cF B.o;have D:=aD B.o;clear c l;go_wp2_with fail;refine(m.o _).mono ?_;rintro e w2 ⟨rfl,c⟩;have x:=qB v c
  try clear n o p C
  replace A:=qK A c;obtain⟨⟨n,o,p⟩,_⟩:=cF A.o;have C:=aD A.o
  try clear q s t D
  replace B:=qK B c;obtain⟨⟨q,s,t⟩,_⟩:=cF B.o;have D:=aD B.o;clear c m
  cases L
  .go_wp2;go_returns;unfold tJ kC;rw[iP (.inr I.o)];exact⟨rfl,x.o⟩
  .go_wp2_with (go_at_call 154;refine(Ds _ _).mono ?_;rintro e N ⟨rfl,c⟩;have K:=qB x c;have E:=qK A c;have F:=qK B c;clear c;obtain⟨⟨a0,M,a2⟩,_⟩:=cF E.o;obtain⟨⟨b0,b1,b2⟩,_⟩:=cF F.o;have O:=aD E.o;have P:=aD F.o)
   all_goals go_returns
   all_goals
    unfold tJ kC;rw[iN (fun h=>h.elim (fun h=>by rw[H.o] at h;cases h) (fun h=>by rw[I.o] at h;cases h))];refine⟨?_,?_⟩
    .simp_all [wL]
    .first|exact K.o|exact x.o
theorem BV{p:Prop}(h:p:=by
 go_wp2;go_returns;exact⟨_,rfl,aM.nil,Below.refl _ _⟩):p:=h
theorem KX{p:Prop}(h:p:=by
 have hk1:¬(k:Int)<(l.length:Int):=qo;obtain rfl:k=l.length:=qo;have HF:=aA (PX HR.o);clear HR;go_wp2;go_returns;exact⟨by rw[HF.o];rfl,HB.o⟩):p:=h
theorem KY{p:Prop}(h:p:=by
 unfold aP at HI;have HL:Hid (∀g,PR l[k]=g->((if g=true then fA PR l=(k:Int) else ∀i (hi:i<l.length),i<k+1->PR l[i]=false):Prop)):=aA (fun g hg=>by
  cases g
  .rw[iN qe];intro i hi h
   rcases Nat.lt_or_ge i k with h1|h1
   .exact HR.o i hi h1
   .obtain rfl:i=k:=qo;exact hg
  .rw[iP rfl];exact JP hlt HR.o hg)
 clear HR hcl;generalize hx:l[k]=x at *;generalize PR x=g at *;clear hx;go_wp2_with fail;refine HI.o.mono ?_;rintro e w' ⟨rfl,hb'⟩;have HB':=qB HB hb';clear HI hb'
 cases g
 .have HF:=aA (HL.o false rfl);clear HL;go_wp2;go_roundw
  case rel=>exact⟨k+1,qo,by go_num,aA (by have:=HF.o;rwa [iN qe] at this),HB'⟩
  case measure=>simp[intOf];omega
 .have HF:=aA (HL.o true rfl);clear HL;go_wp2;go_returns;exact⟨by have:=HF.o;rw[iP trivial] at this;rw[this];rfl,HB'.o⟩):p:=h
theorem Zu:dZ prog 155 30 3 32:=fR (z:= .agg #[.int .i64 0,.int .i64 0,.string ByteArray.empty]) underlying155 (by kernel_rfl) rfl qe
theorem JO:dZ prog 102 160 3 48:=fR (z:= .agg #[.int .i64 0,.string ByteArray.empty,.slice none 0 0]) underlying102 (by kernel_rfl) rfl qe
theorem lV{α:Type}{R:Rep α}{s:Nat}(F:Firm R s){e:TypeId}{w w':World}{ok:nP}{cs:List Value}{l:List α}{v:Value}(h:aW (R w ok) cs l)(c:Below w.heap.size w w')(d:w'.ownsRow w.heap.size e s v l.length cs):aM R s e w' w.heap.size ok v l:=by
 refine⟨cs,d,h.mono fun r x f=> ?_⟩;refine F.more (F.aDW (F.inb f) (aJ c)) fun b a=>⟨a.1,lL a.2 c.size,fun e=> ?_⟩
 have:=(d.lt b e.symm).1;have:=a.2;omega
theorem kN{α:Type}{R:Rep α}{s:Nat}(F:Firm R s)(i:0<s){w:World}{ok:nP}{n c:Nat}{l:List α}(h:aH R w ok (.slice none n c) l):l=[]:=by
 obtain⟨a,j,cs,e,h1,h2,_⟩:=h;injection e with f k m;subst f;by_cases d:cs=[]
 .subst d;exact h2.aEQ (fun _ _ g=>F.len g) i
 .obtain⟨b,off,e,_⟩:=h1 d;cases e
theorem eO{α:Type}{enc:α->List Value}{good:α->Prop}{s:Nat}{e:TypeId}{w:World}{base:Nat}{ok ok':nP}{v:Value}{l:List α}(h:aM (mS enc good) s e w base ok v l):aM (mS enc good) s e w base ok' v l:=by
 obtain⟨cs,h1,h2⟩:=h;exact⟨cs,h1,h2.mono fun r x a=>a⟩
def bV{α:Type}(R:Rep α)(s:Nat)(e:TypeId)(ok:nP)(l:List α)(w:World)(a:Ending)(w':World):Prop:=
 ∃v,a=.returned v/\aM R s e w' w.heap.size ok v l/\Below w.heap.size w w'
theorem Dt{ok:nP}(v:Value)(l:List V3)(w:World)(h:aH VR w ok v l):Calls prog 259 #[v] w (bV VR 3 30 ok l w):=by
 obtain⟨a,c,rfl,n⟩:=h.slice;unfold bV
 rcases a with _|k
 .have B:=kN bG qe h;subst B;have heq:=Lib.run_eql_slice_nil (P:=prog) w 155 30 none 0 c 0 0 underlying155;clear h;go_enter func259,ntmps259;exact BV
 .obtain⟨D,E,cs,b,h1,h2,_⟩:=h;injection b with b _ z;subst b z;have heq:=Lib.run_eql_slice_nil (P:=prog) w 155 30 (some k) l.length c 0 0 underlying155;have d:Below w.heap.size w (w.alloc (.cells #[] 30)):=(Below.refl _ _).alloc (lR _) _;have g:=aA (World.ownsRow_made (e:=30) w #[] 0 (lR _) (by simp[maxLen]) rfl:(w.alloc (.cells #[] 30)).ownsRow w.heap.size 30 3 (.slice (some ⟨w.heap.size,0,none⟩) 0 0) 0 []);have s:=aA (h2.len (fun _ _ f=>bG.len f));have t:=aA (h2.aEl (fun _ _ f=>bG.one f));obtain⟨y,r,q,j⟩:=dH (h1.lt.below d) h2 d n;clear h1 h2 d n;go_enter func259,ntmps259;go_wp2_with (at_builtin;refine fS Zu rfl (.tmp 5) (.tmp 6) rfl w.heap.size (.slice (some ⟨w.heap.size,0,none⟩) 0 0) 0 [] rfl g.o (some k) l.length c cs rfl s.o (y.o.more qs) t.o (by have:=j.o;unfold maxLen;omega) (qA j.o) qs ?_;intro C c1 w1 p m A;have i:=aA (dY g.o q.o m (lR _) qs);have x:=aA p;clear p m A)
  go_returns;have o:=x.o;simp only[Nat.zero_add,List.nil_append] at o ⊢;exact⟨_,rfl,lV bG r.o i.o o,i.o⟩
def fA{α:Type}(p:α->Bool)(l:List α):Int:=if l.findIdx p<l.length then (l.findIdx p:Int) else -1
theorem JP{α:Type}{p:α->Bool}{l:List α}{k:Nat}(a:k<l.length)(b:∀i (c:i<l.length),i<k->p l[i]=false)(h:p l[k]=true):fA p l=(k:Int):=by
 have e:l.findIdx p=k:=(List.findIdx_eq a).2 ⟨h,fun j hj=>b j qo hj⟩;unfold fA;rw[e,iP a]
theorem PX{α:Type}{p:α->Bool}{l:List α}(b:∀i (a:i<l.length),i<l.length->p l[i]=false):fA p l= -1:=by
 have e:l.findIdx p=l.length:=by
  rw[List.findIdx_eq_length];intro x c;obtain⟨i,a,rfl⟩:=List.getElem_of_mem c;exact b i a a
 unfold fA;rw[e,iN qo]
theorem tK{α:Type}(p:α->Bool)(l:List α):decide (0<=fA p l)=l.any p:=by
 unfold fA;rw[Bool.eq_iff_iff,decide_eq_true_iff,List.any_eq_true];by_cases h:l.findIdx p<l.length
 .rw[iP h];exact⟨fun _=>⟨_,List.getElem_mem h,List.findIdx_getElem (w:=h)⟩,fun _=>by omega⟩
 .rw[iN h];exact⟨fun h=>by omega,fun⟨x,a,hp⟩=>absurd (List.findIdx_lt_length_of_exists ⟨x,a,hp⟩) h⟩
def jH(w:World)(p i:Nat)(v:Value):Prop:=w.cell? ⟨p,i,none⟩=some v/\p<w.heap.size
theorem jH.on{w w':World}{p i:Nat}{v:Value}(h:jH w p i v)(a:Below w.heap.size w w'):jH w' p i v:=⟨(a.cell (p:=⟨p,i,none⟩) h.2).trans h.1,lL h.2 a.size⟩
theorem Du(x:Gv)(b:oD)(c:Nat)(C:Int)(N:bY)(p q:Nat)(w:World)(hp:jH w p 0 (.int .i64 C))(a:jH w q 0 (.string N)):
 Calls prog 279 #[.agg #[.int .i64 x.1,.string x.2.1,.slice b x.2.2.length c],.pointer (some ⟨p,0,none⟩),.pointer (some ⟨q,0,none⟩)] w (aP (.bool (mT C N x)) w):=by
 unfold aP;have h1:p≠w.heap.size:=qA hp.2;have h2:q≠w.heap.size:=qA a.2;obtain⟨hp,d⟩:=hp;obtain⟨a,e⟩:=a;go_enter func279,ntmps279;go_wp2
 .rename_i h;go_returns;refine⟨?_,aB _ _⟩;show Ending.returned (.bool (x.2.1.toList==N.toList))=_;rw[jL];unfold mT;rw[dX h];rfl
 .rename_i h;go_returns;refine⟨?_,aB _ _⟩;show Ending.returned (.bool false)=_;unfold mT;rw[dF h];rfl
theorem Jh{ok:nP}(v:Value)(l:List Gv)(C:Int)(N:bY)(p q:Nat)(w:World)(h:aH jW w ok v l)(d:jH w p 0 (.int .i64 C)/\jH w q 0 (.string N)):Calls prog 278 #[v,.func (.func 279) #[] #[.pointer (some ⟨p,0,none⟩),.pointer (some ⟨q,0,none⟩)]] w (aP (.int .i64 (fA (mT C N) l)) w):=by
 obtain⟨a,c,rfl,D⟩:=h.slice;have t:=aA h;have j:=aA (fun wr (o:Below w.heap.size w wr)=>(⟨d.1.on o,d.2.on o⟩:jH wr p 0 (.int .i64 C)/\jH wr q 0 (.string N)));clear h d;obtain⟨PR,f⟩:∃PR:Gv->Bool,PR=(mT C N):=⟨_,rfl⟩;have s:=aA f;rw[<-f];clear f;unfold aP;go_enter func278,ntmps278;go_wp2;go_loopw [5,8] (fun _ i wr=>∃k:Nat,k<=l.length/\i=.int .i64 k/\Hid (∀i (hi:i<l.length),i<k->PR l[i]=false)/\Hid (Below w.heap.size w wr)) (fun _ i _=>l.length - (intOf i).toNat)
 case atStart=>exact BU
 case round=>
  obtain⟨k,B,rfl,HR,HB⟩:=hrel;by_cases hlt:k<l.length
  .have hk1:(k:Int)<(l.length:Int):=qo;obtain⟨b,off,r,rfl,_,A,⟨vb,rfl,y⟩,hcl⟩:=aH.at cA (t.o.on cA HB.o) hlt qe;obtain⟨m,n,rfl,_⟩:=y.2.2.slice;obtain⟨z,E,F⟩:=cR3 hcl;rw[Nat.add_zero] at z;have HI:Hid (Calls prog 279 #[.agg #[.int .i64 l[k].1,.string l[k].2.1,.slice m l[k].2.2.length n],.pointer (some ⟨p,0,none⟩),.pointer (some ⟨q,0,none⟩)] wr (aP (.bool (PR l[k])) wr)):=by rw[s.o];exact aA (Du l[k] m n C N p q wr (j.o wr HB.o).1 (j.o wr HB.o).2)
   exact KY
  .exact KX
theorem Dv(l:List Gv)(C:Int)(N:bY):mV l C N=fA (mT C N) l:=rfl
theorem Dw{ok:nP}(v:Value)(l:List Gv)(C:Int)(N:bY)(w:World)(h:aH jW w ok v l):
 Calls prog 258 #[v,.int .i64 C,.string N] w (aP (.int .i64 (mV l C N)) w):=by
 obtain⟨h1,h2,h3,h4,h5⟩:=If w (.int .i64 C) (.string N) 3 9;have d:=aA (Jh v l C N w.heap.size (w.heap.size+1) _ (h.on cA h5) ⟨⟨h1,h3⟩,⟨h2,h4⟩⟩);have b:=aA h5;obtain⟨a,c,rfl,i⟩:=h.slice;clear h1 h2 h3 h4 h5 h;rw[Dv];unfold aP at *;generalize fA (mT C N) l=pl at *;go_enter func258,ntmps258;go_wp2_with fail;refine d.o.mono ?_;rintro e w' ⟨rfl,f⟩;have g:=qB b f;clear d f b;go_wp2;go_returns;exact⟨rfl,g.o⟩
def tL(l:List Gv)(a:At)(w:World)(e:Ending)(w':World):Prop:=
 ∃v,e=.returned (.tuple #[v,.int .i64 (rZ l a).2])/\aH VR w' (fun b=>w.heap.size<=b) v (rZ l a).1/\Below w.heap.size w w'
theorem Ji(l:List Gv)(C:Int)(N:bY):(mV l C N= -1/\zL l C N=[])\/∃(k:Nat) (h:k<l.length),mV l C N=(k:Int)/\zL l C N=l[k].2.2:=by
 by_cases h:mU l C N<l.length
 .refine .inr ⟨mU l C N,h,?_,Yy h⟩;unfold mV;rw[iP h]
 .refine .inl ⟨?_,Pf h⟩;unfold mV;rw[iN h]
theorem UQ{ok:nP}(v:Value)(l:List Gv)(at_:At)(w:World)(h:aH jW w ok v l):Calls prog 232 #[v,oQ at_] w (tL l at_ w):=by
 obtain⟨cat,name,must⟩:=at_;have E:=aB w (.cells #[.int .i64 cat,.string name,.bool must] 277);obtain⟨y,j,R,d,L⟩:=gJ (Dw v l cat name _ (h.on cA E)) (Ji l cat name) h (aK w (.cells #[.int .i64 cat,.string name,.bool must] 277) _ rfl) E;obtain⟨a,c,rfl,ad⟩:=h.slice;obtain⟨B,m⟩:∃B,zL l cat name=B:=⟨_,rfl⟩;have J:Hid (∀v w',(B=[]/\must=true)->aH VR w' (fun b=>w.heap.size<=b) v []->Below w.heap.size w w'->tL l ⟨cat,name,must⟩ w (.returned (.tuple #[v,.int .i64 4])) w'):=aA (fun v w' h1 h2 h3=>by
  unfold tL rZ;simp only[m];rw[iP h1];exact⟨v,rfl,h2,h3⟩)
 have z:Hid (∀v w',¬(B=[]/\must=true)->aH VR w' (fun b=>w.heap.size<=b) v B->Below w.heap.size w w'->tL l ⟨cat,name,must⟩ w (.returned (.tuple #[v,.int .i64 0])) w'):=aA (fun v w' h1 h2 h3=>by
  unfold tL rZ;simp only[m];rw[iN h1];exact⟨v,rfl,h2,h3⟩)
 rw[m] at j;unfold oQ;unfold aP at y;clear E h m;generalize mV l cat name=pl at *;go_enter func232,ntmps232;go_wp2_with fail;refine y.o.mono ?_;rintro e w1 ⟨rfl,F⟩;have f:=qB L F
 try clear p q s I
 replace d:=qK d F;obtain⟨⟨p,q,s⟩,_⟩:=cF d.o;have I:=aD d.o;clear y F L
 rcases j.o with ⟨C,i⟩|⟨k,S,C,i⟩
 .subst C;have g:=aA i;clear j i
  cases must
  .go_wp2;go_returns;exact z.o _ _ qs (by rw[g.o];exact aH.nil) f.o
  .go_wp2;go_returns;exact J.o _ _ ⟨g.o,(by trivial)⟩ aH.nil f.o
 .subst C;obtain⟨b,off,r,rfl,_,Z,⟨vb,rfl,N⟩,M⟩:=aH.at cA (R.o.on cA f.o) S qe;have n:=N.2.2;rw[<-i] at n;obtain⟨W,X,rfl,O⟩:=n.slice;obtain⟨P,U,V⟩:=cR3 M;rw[Nat.add_zero] at P;have ab:(k:Int)<(l.length:Int):=qo;have aa:decide ((k:Int) ≥ 0)=true:=dX qo;have x:=aA (Dt _ _ w1 n);unfold bV at x;have Q:=aA O;clear j N M i n O;go_wp2_with fail;refine x.o.mono ?_;rintro e w2 ⟨v,rfl,H,G⟩;obtain⟨A,Y,rfl⟩:=H.slice;have K:=aA ((eO (enc:=JF) (good:=cS) (ok':=fun b=>w.heap.size<=b) H).sl Q.o (fun b=>w.heap.size<=b) (fun b D _=>D) (fun b D _=>lT f.o.size D) bG);have t:=qB f G
  try clear p q s I
  replace d:=qK d G;obtain⟨⟨p,q,s⟩,_⟩:=cF d.o;have I:=aD d.o;clear x G H P U V f;by_cases o:B.length=0
  .have T:((B.length:Int)==0)=true:=bQ.2 qo;have g:=aA (List.eq_nil_of_length_eq_zero o);clear o
   cases must
   .go_wp2;go_returns;exact z.o _ _ qs K.o t.o
   .go_wp2;go_returns;exact J.o _ _ ⟨g.o,(by trivial)⟩ aH.nil t.o
  .have T:((B.length:Int)==0)=false:=bN.2 qo;have g:Hid (¬(B=[]/\must=true)):=aA (fun h=>o (by rw[h.1];rfl));clear o;go_wp2;go_returns;exact z.o _ _ g.o K.o t.o
theorem Dx:dZ prog 111 173 3 40:=fR (z:= .agg #[.int .i64 0,.string ByteArray.empty,.string ByteArray.empty]) underlying111 (by kernel_rfl) rfl qe
theorem xI:dZ prog 110 185 4 48:=fR (z:= .agg #[.string ByteArray.empty,.int .i64 0,.int .i64 0,.string ByteArray.empty]) underlying110 (by kernel_rfl) rfl qe
theorem AG:dZ prog 50 113 5 96:=fR (z:= .agg #[.string ByteArray.empty,.string ByteArray.empty,.string ByteArray.empty,.slice none 0 0,.slice none 0 0]) underlying50 (by kernel_rfl) rfl qe
theorem Ub:dZ prog 51 166 7 88:=fR (z:= .agg #[.int .i64 0,.int .i64 0,.string ByteArray.empty,.string ByteArray.empty,.string ByteArray.empty,.string ByteArray.empty,.bool false]) underlying51 (by kernel_rfl) rfl qe
theorem Uc:dZ prog 52 169 3 40:=fR (z:= .agg #[.int .i64 0,.string ByteArray.empty,.string ByteArray.empty]) underlying52 (by kernel_rfl) rfl qe
theorem Ud:dZ prog 53 157 2 32:=fR (z:= .agg #[.string ByteArray.empty,.string ByteArray.empty]) underlying53 (by kernel_rfl) rfl qe
theorem aDh:dZ prog 58 180 3 32:=fR (z:= .agg #[.int .i64 0,.int .i64 0,.string ByteArray.empty]) underlying58 (by kernel_rfl) rfl qe
theorem aDi:dZ prog 311 279 7 72:=fR (z:= .agg #[.int .i64 0,.string ByteArray.empty,.bool false,.int .i64 0,.int .i64 0,.int .i64 0,.string ByteArray.empty]) underlying311 (by kernel_rfl) rfl qe
theorem aDj:dZ prog 267 292 7 72:=fR (z:= .agg #[.int .i64 0,.int .i64 0,.int .i64 0,.string ByteArray.empty,.int .i64 0,.string ByteArray.empty,.bool false]) underlying267 (by kernel_rfl) rfl qe
theorem aDk:dZ prog 56 269 5 96:=fR (z:= .agg #[.string ByteArray.empty,.bool false,.slice none 0 0,.slice none 0 0,.slice none 0 0]) underlying56 (by kernel_rfl) rfl qe
theorem aDl:dZ prog 57 60 7 128:=fR (z:= .agg #[.string ByteArray.empty,.bool false,.int .i64 0,.slice none 0 0,.slice none 0 0,.slice none 0 0,.slice none 0 0]) underlying57 (by kernel_rfl) rfl qe
theorem DJ{ok:nP}(v:Value)(l:List uI)(w:World)(h:aH nB w ok v l):Calls prog 88 #[v] w (bV nB 3 173 ok l w):=by
 obtain⟨a,c,rfl,n⟩:=h.slice;unfold bV
 rcases a with _|k
 .have B:=kN cE qe h;subst B;have heq:=Lib.run_eql_slice_nil (P:=prog) w 111 173 none 0 c 0 0 underlying111;clear h;go_enter func88,ntmps88;exact BV
 .obtain⟨D,E,cs,b,h1,h2,_⟩:=h;injection b with b _ z;subst b z;have heq:=Lib.run_eql_slice_nil (P:=prog) w 111 173 (some k) l.length c 0 0 underlying111;have d:Below w.heap.size w (w.alloc (.cells #[] 173)):=(Below.refl _ _).alloc (lR _) _;have g:=aA (World.ownsRow_made (e:=173) w #[] 0 (lR _) (by simp[maxLen]) rfl:(w.alloc (.cells #[] 173)).ownsRow w.heap.size 173 3 (.slice (some ⟨w.heap.size,0,none⟩) 0 0) 0 []);have s:=aA (h2.len (fun _ _ f=>cE.len f));have t:=aA (h2.aEl (fun _ _ f=>cE.one f));obtain⟨y,r,q,j⟩:=dH (h1.lt.below d) h2 d n;clear h1 h2 d n;go_enter func88,ntmps88;go_wp2_with (at_builtin;refine fS Dx rfl (.tmp 5) (.tmp 6) rfl w.heap.size (.slice (some ⟨w.heap.size,0,none⟩) 0 0) 0 [] rfl g.o (some k) l.length c cs rfl s.o (y.o.more qs) t.o (by have:=j.o;unfold maxLen;omega) (qA j.o) qs ?_;intro C c1 w1 p m A;have i:=aA (dY g.o q.o m (lR _) qs);have x:=aA p;clear p m A)
  go_returns;have o:=x.o;simp only[Nat.zero_add,List.nil_append] at o ⊢;exact⟨_,rfl,lV cE r.o i.o o,i.o⟩
theorem UR{ok:nP}(v:Value)(l:List qE)(w:World)(h:aH lO w ok v l):Calls prog 152 #[v] w (bV lO 4 185 ok l w):=by
 obtain⟨a,c,rfl,n⟩:=h.slice;unfold bV
 rcases a with _|k
 .have B:=kN bS qe h;subst B;have heq:=Lib.run_eql_slice_nil (P:=prog) w 110 185 none 0 c 0 0 underlying110;clear h;go_enter func152,ntmps152;exact BV
 .obtain⟨D,E,cs,b,h1,h2,_⟩:=h;injection b with b _ z;subst b z;have heq:=Lib.run_eql_slice_nil (P:=prog) w 110 185 (some k) l.length c 0 0 underlying110;have d:Below w.heap.size w (w.alloc (.cells #[] 185)):=(Below.refl _ _).alloc (lR _) _;have g:=aA (World.ownsRow_made (e:=185) w #[] 0 (lR _) (by simp[maxLen]) rfl:(w.alloc (.cells #[] 185)).ownsRow w.heap.size 185 4 (.slice (some ⟨w.heap.size,0,none⟩) 0 0) 0 []);have s:=aA (h2.len (fun _ _ f=>bS.len f));have t:=aA (h2.aEl (fun _ _ f=>bS.one f));obtain⟨y,r,q,j⟩:=dH (h1.lt.below d) h2 d n;clear h1 h2 d n;go_enter func152,ntmps152;go_wp2_with (at_builtin;refine fS xI rfl (.tmp 5) (.tmp 6) rfl w.heap.size (.slice (some ⟨w.heap.size,0,none⟩) 0 0) 0 [] rfl g.o (some k) l.length c cs rfl s.o (y.o.more qs) t.o (by have:=j.o;unfold maxLen;omega) (qA j.o) qs ?_;intro C c1 w1 p m A;have i:=aA (dY g.o q.o m (lR _) qs);have x:=aA p;clear p m A)
  go_returns;have o:=x.o;simp only[Nat.zero_add,List.nil_append] at o ⊢;exact⟨_,rfl,lV bS r.o i.o o,i.o⟩
theorem DK{ok:nP}(v:Value)(l:List cB)(w:World)(h:aH qN w ok v l):Calls prog 87 #[v] w (bV qN 5 113 ok l w):=by
 obtain⟨a,c,rfl,n⟩:=h.slice;unfold bV
 rcases a with _|k
 .have B:=kN dW qe h;subst B;have heq:=Lib.run_eql_slice_nil (P:=prog) w 50 113 none 0 c 0 0 underlying50;clear h;go_enter func87,ntmps87;exact BV
 .obtain⟨D,E,cs,b,h1,h2,_⟩:=h;injection b with b _ z;subst b z;have heq:=Lib.run_eql_slice_nil (P:=prog) w 50 113 (some k) l.length c 0 0 underlying50;have d:Below w.heap.size w (w.alloc (.cells #[] 113)):=(Below.refl _ _).alloc (lR _) _;have g:=aA (World.ownsRow_made (e:=113) w #[] 0 (lR _) (by simp[maxLen]) rfl:(w.alloc (.cells #[] 113)).ownsRow w.heap.size 113 5 (.slice (some ⟨w.heap.size,0,none⟩) 0 0) 0 []);have s:=aA (h2.len (fun _ _ f=>dW.len f));have t:=aA (h2.aEl (fun _ _ f=>dW.one f));obtain⟨y,r,q,j⟩:=dH (h1.lt.below d) h2 d n;clear h1 h2 d n;go_enter func87,ntmps87;go_wp2_with (at_builtin;refine fS AG rfl (.tmp 5) (.tmp 6) rfl w.heap.size (.slice (some ⟨w.heap.size,0,none⟩) 0 0) 0 [] rfl g.o (some k) l.length c cs rfl s.o (y.o.more qs) t.o (by have:=j.o;unfold maxLen;omega) (qA j.o) qs ?_;intro C c1 w1 p m A;have i:=aA (dY g.o q.o m (lR _) qs);have x:=aA p;clear p m A)
  go_returns;have o:=x.o;simp only[Nat.zero_add,List.nil_append] at o ⊢;exact⟨_,rfl,lV dW r.o i.o o,i.o⟩
theorem DL{ok:nP}(v:Value)(l:List wJ)(w:World)(h:aH tG w ok v l):Calls prog 85 #[v] w (bV tG 7 166 ok l w):=by
 obtain⟨a,c,rfl,n⟩:=h.slice;unfold bV
 rcases a with _|k
 .have B:=kN cV qe h;subst B;have heq:=Lib.run_eql_slice_nil (P:=prog) w 51 166 none 0 c 0 0 underlying51;clear h;go_enter func85,ntmps85;exact BV
 .obtain⟨D,E,cs,b,h1,h2,_⟩:=h;injection b with b _ z;subst b z;have heq:=Lib.run_eql_slice_nil (P:=prog) w 51 166 (some k) l.length c 0 0 underlying51;have d:Below w.heap.size w (w.alloc (.cells #[] 166)):=(Below.refl _ _).alloc (lR _) _;have g:=aA (World.ownsRow_made (e:=166) w #[] 0 (lR _) (by simp[maxLen]) rfl:(w.alloc (.cells #[] 166)).ownsRow w.heap.size 166 7 (.slice (some ⟨w.heap.size,0,none⟩) 0 0) 0 []);have s:=aA (h2.len (fun _ _ f=>cV.len f));have t:=aA (h2.aEl (fun _ _ f=>cV.one f));obtain⟨y,r,q,j⟩:=dH (h1.lt.below d) h2 d n;clear h1 h2 d n;go_enter func85,ntmps85;go_wp2_with (at_builtin;refine fS Ub rfl (.tmp 5) (.tmp 6) rfl w.heap.size (.slice (some ⟨w.heap.size,0,none⟩) 0 0) 0 [] rfl g.o (some k) l.length c cs rfl s.o (y.o.more qs) t.o (by have:=j.o;unfold maxLen;omega) (qA j.o) qs ?_;intro C c1 w1 p m A;have i:=aA (dY g.o q.o m (lR _) qs);have x:=aA p;clear p m A)
  go_returns;have o:=x.o;simp only[Nat.zero_add,List.nil_append] at o ⊢;exact⟨_,rfl,lV cV r.o i.o o,i.o⟩
theorem DM{ok:nP}(v:Value)(l:List xY)(w:World)(h:aH wK w ok v l):Calls prog 86 #[v] w (bV wK 3 169 ok l w):=by
 obtain⟨a,c,rfl,n⟩:=h.slice;unfold bV
 rcases a with _|k
 .have B:=kN eD qe h;subst B;have heq:=Lib.run_eql_slice_nil (P:=prog) w 52 169 none 0 c 0 0 underlying52;clear h;go_enter func86,ntmps86;exact BV
 .obtain⟨D,E,cs,b,h1,h2,_⟩:=h;injection b with b _ z;subst b z;have heq:=Lib.run_eql_slice_nil (P:=prog) w 52 169 (some k) l.length c 0 0 underlying52;have d:Below w.heap.size w (w.alloc (.cells #[] 169)):=(Below.refl _ _).alloc (lR _) _;have g:=aA (World.ownsRow_made (e:=169) w #[] 0 (lR _) (by simp[maxLen]) rfl:(w.alloc (.cells #[] 169)).ownsRow w.heap.size 169 3 (.slice (some ⟨w.heap.size,0,none⟩) 0 0) 0 []);have s:=aA (h2.len (fun _ _ f=>eD.len f));have t:=aA (h2.aEl (fun _ _ f=>eD.one f));obtain⟨y,r,q,j⟩:=dH (h1.lt.below d) h2 d n;clear h1 h2 d n;go_enter func86,ntmps86;go_wp2_with (at_builtin;refine fS Uc rfl (.tmp 5) (.tmp 6) rfl w.heap.size (.slice (some ⟨w.heap.size,0,none⟩) 0 0) 0 [] rfl g.o (some k) l.length c cs rfl s.o (y.o.more qs) t.o (by have:=j.o;unfold maxLen;omega) (qA j.o) qs ?_;intro C c1 w1 p m A;have i:=aA (dY g.o q.o m (lR _) qs);have x:=aA p;clear p m A)
  go_returns;have o:=x.o;simp only[Nat.zero_add,List.nil_append] at o ⊢;exact⟨_,rfl,lV eD r.o i.o o,i.o⟩
theorem US{ok:nP}(v:Value)(l:List xG)(w:World)(h:aH rH w ok v l):Calls prog 145 #[v] w (bV rH 2 157 ok l w):=by
 obtain⟨a,c,rfl,n⟩:=h.slice;unfold bV
 rcases a with _|k
 .have B:=kN dB qe h;subst B;have heq:=Lib.run_eql_slice_nil (P:=prog) w 53 157 none 0 c 0 0 underlying53;clear h;go_enter func145,ntmps145;exact BV
 .obtain⟨D,E,cs,b,h1,h2,_⟩:=h;injection b with b _ z;subst b z;have heq:=Lib.run_eql_slice_nil (P:=prog) w 53 157 (some k) l.length c 0 0 underlying53;have d:Below w.heap.size w (w.alloc (.cells #[] 157)):=(Below.refl _ _).alloc (lR _) _;have g:=aA (World.ownsRow_made (e:=157) w #[] 0 (lR _) (by simp[maxLen]) rfl:(w.alloc (.cells #[] 157)).ownsRow w.heap.size 157 2 (.slice (some ⟨w.heap.size,0,none⟩) 0 0) 0 []);have s:=aA (h2.len (fun _ _ f=>dB.len f));have t:=aA (h2.aEl (fun _ _ f=>dB.one f));obtain⟨y,r,q,j⟩:=dH (h1.lt.below d) h2 d n;clear h1 h2 d n;go_enter func145,ntmps145;go_wp2_with (at_builtin;refine fS Ud rfl (.tmp 5) (.tmp 6) rfl w.heap.size (.slice (some ⟨w.heap.size,0,none⟩) 0 0) 0 [] rfl g.o (some k) l.length c cs rfl s.o (y.o.more qs) t.o (by have:=j.o;unfold maxLen;omega) (qA j.o) qs ?_;intro C c1 w1 p m A;have i:=aA (dY g.o q.o m (lR _) qs);have x:=aA p;clear p m A)
  go_returns;have o:=x.o;simp only[Nat.zero_add,List.nil_append] at o ⊢;exact⟨_,rfl,lV dB r.o i.o o,i.o⟩
theorem GV{ok:nP}(v:Value)(l:List Ob)(w:World)(h:aH kE w ok v l):Calls prog 195 #[v] w (bV kE 3 180 ok l w):=by
 obtain⟨a,c,rfl,n⟩:=h.slice;unfold bV
 rcases a with _|k
 .have B:=kN aO qe h;subst B;have heq:=Lib.run_eql_slice_nil (P:=prog) w 58 180 none 0 c 0 0 underlying58;clear h;go_enter func195,ntmps195;exact BV
 .obtain⟨D,E,cs,b,h1,h2,_⟩:=h;injection b with b _ z;subst b z;have heq:=Lib.run_eql_slice_nil (P:=prog) w 58 180 (some k) l.length c 0 0 underlying58;have d:Below w.heap.size w (w.alloc (.cells #[] 180)):=(Below.refl _ _).alloc (lR _) _;have g:=aA (World.ownsRow_made (e:=180) w #[] 0 (lR _) (by simp[maxLen]) rfl:(w.alloc (.cells #[] 180)).ownsRow w.heap.size 180 3 (.slice (some ⟨w.heap.size,0,none⟩) 0 0) 0 []);have s:=aA (h2.len (fun _ _ f=>aO.len f));have t:=aA (h2.aEl (fun _ _ f=>aO.one f));obtain⟨y,r,q,j⟩:=dH (h1.lt.below d) h2 d n;clear h1 h2 d n;go_enter func195,ntmps195;go_wp2_with (at_builtin;refine fS aDh rfl (.tmp 5) (.tmp 6) rfl w.heap.size (.slice (some ⟨w.heap.size,0,none⟩) 0 0) 0 [] rfl g.o (some k) l.length c cs rfl s.o (y.o.more qs) t.o (by have:=j.o;unfold maxLen;omega) (qA j.o) qs ?_;intro C c1 w1 p m A;have i:=aA (dY g.o q.o m (lR _) qs);have x:=aA p;clear p m A)
  go_returns;have o:=x.o;simp only[Nat.zero_add,List.nil_append] at o ⊢;exact⟨_,rfl,lV aO r.o i.o o,i.o⟩
theorem YU{ok:nP}(v:Value)(l:List Ma)(w:World)(h:aH sB w ok v l):Calls prog 235 #[v] w (bV sB 7 279 ok l w):=by
 obtain⟨a,c,rfl,n⟩:=h.slice;unfold bV
 rcases a with _|k
 .have B:=kN eV qe h;subst B;have heq:=Lib.run_eql_slice_nil (P:=prog) w 311 279 none 0 c 0 0 underlying311;clear h;go_enter func235,ntmps235;exact BV
 .obtain⟨D,E,cs,b,h1,h2,_⟩:=h;injection b with b _ z;subst b z;have heq:=Lib.run_eql_slice_nil (P:=prog) w 311 279 (some k) l.length c 0 0 underlying311;have d:Below w.heap.size w (w.alloc (.cells #[] 279)):=(Below.refl _ _).alloc (lR _) _;have g:=aA (World.ownsRow_made (e:=279) w #[] 0 (lR _) (by simp[maxLen]) rfl:(w.alloc (.cells #[] 279)).ownsRow w.heap.size 279 7 (.slice (some ⟨w.heap.size,0,none⟩) 0 0) 0 []);have s:=aA (h2.len (fun _ _ f=>eV.len f));have t:=aA (h2.aEl (fun _ _ f=>eV.one f));obtain⟨y,r,q,j⟩:=dH (h1.lt.below d) h2 d n;clear h1 h2 d n;go_enter func235,ntmps235;go_wp2_with (at_builtin;refine fS aDi rfl (.tmp 5) (.tmp 6) rfl w.heap.size (.slice (some ⟨w.heap.size,0,none⟩) 0 0) 0 [] rfl g.o (some k) l.length c cs rfl s.o (y.o.more qs) t.o (by have:=j.o;unfold maxLen;omega) (qA j.o) qs ?_;intro C c1 w1 p m A;have i:=aA (dY g.o q.o m (lR _) qs);have x:=aA p;clear p m A)
  go_returns;have o:=x.o;simp only[Nat.zero_add,List.nil_append] at o ⊢;exact⟨_,rfl,lV eV r.o i.o o,i.o⟩
theorem YV{ok:nP}(v:Value)(l:List No)(w:World)(h:aH KJ w ok v l):Calls prog 198 #[v] w (bV KJ 7 292 ok l w):=by
 obtain⟨a,c,rfl,n⟩:=h.slice;unfold bV
 rcases a with _|k
 .have B:=kN dQ qe h;subst B;have heq:=Lib.run_eql_slice_nil (P:=prog) w 267 292 none 0 c 0 0 underlying267;clear h;go_enter func198,ntmps198;exact BV
 .obtain⟨D,E,cs,b,h1,h2,_⟩:=h;injection b with b _ z;subst b z;have heq:=Lib.run_eql_slice_nil (P:=prog) w 267 292 (some k) l.length c 0 0 underlying267;have d:Below w.heap.size w (w.alloc (.cells #[] 292)):=(Below.refl _ _).alloc (lR _) _;have g:=aA (World.ownsRow_made (e:=292) w #[] 0 (lR _) (by simp[maxLen]) rfl:(w.alloc (.cells #[] 292)).ownsRow w.heap.size 292 7 (.slice (some ⟨w.heap.size,0,none⟩) 0 0) 0 []);have s:=aA (h2.len (fun _ _ f=>dQ.len f));have t:=aA (h2.aEl (fun _ _ f=>dQ.one f));obtain⟨y,r,q,j⟩:=dH (h1.lt.below d) h2 d n;clear h1 h2 d n;go_enter func198,ntmps198;go_wp2_with (at_builtin;refine fS aDj rfl (.tmp 5) (.tmp 6) rfl w.heap.size (.slice (some ⟨w.heap.size,0,none⟩) 0 0) 0 [] rfl g.o (some k) l.length c cs rfl s.o (y.o.more qs) t.o (by have:=j.o;unfold maxLen;omega) (qA j.o) qs ?_;intro C c1 w1 p m A;have i:=aA (dY g.o q.o m (lR _) qs);have x:=aA p;clear p m A)
  go_returns;have o:=x.o;simp only[Nat.zero_add,List.nil_append] at o ⊢;exact⟨_,rfl,lV dQ r.o i.o o,i.o⟩
theorem YW{ok:nP}(v:Value)(l:List Ru)(w:World)(h:aH yP w ok v l):Calls prog 196 #[v] w (bV yP 5 269 ok l w):=by
 obtain⟨a,c,rfl,n⟩:=h.slice;unfold bV
 rcases a with _|k
 .have B:=kN bM qe h;subst B;have heq:=Lib.run_eql_slice_nil (P:=prog) w 56 269 none 0 c 0 0 underlying56;clear h;go_enter func196,ntmps196;exact BV
 .obtain⟨D,E,cs,b,h1,h2,_⟩:=h;injection b with b _ z;subst b z;have heq:=Lib.run_eql_slice_nil (P:=prog) w 56 269 (some k) l.length c 0 0 underlying56;have d:Below w.heap.size w (w.alloc (.cells #[] 269)):=(Below.refl _ _).alloc (lR _) _;have g:=aA (World.ownsRow_made (e:=269) w #[] 0 (lR _) (by simp[maxLen]) rfl:(w.alloc (.cells #[] 269)).ownsRow w.heap.size 269 5 (.slice (some ⟨w.heap.size,0,none⟩) 0 0) 0 []);have s:=aA (h2.len (fun _ _ f=>bM.len f));have t:=aA (h2.aEl (fun _ _ f=>bM.one f));obtain⟨y,r,q,j⟩:=dH (h1.lt.below d) h2 d n;clear h1 h2 d n;go_enter func196,ntmps196;go_wp2_with (at_builtin;refine fS aDk rfl (.tmp 5) (.tmp 6) rfl w.heap.size (.slice (some ⟨w.heap.size,0,none⟩) 0 0) 0 [] rfl g.o (some k) l.length c cs rfl s.o (y.o.more qs) t.o (by have:=j.o;unfold maxLen;omega) (qA j.o) qs ?_;intro C c1 w1 p m A;have i:=aA (dY g.o q.o m (lR _) qs);have x:=aA p;clear p m A)
  go_returns;have o:=x.o;simp only[Nat.zero_add,List.nil_append] at o ⊢;exact⟨_,rfl,lV bM r.o i.o o,i.o⟩
theorem YX{n:Nat}{ok:nP}(v:Value)(l:List Po)(w:World)(h:aH (qR n) w ok v l):Calls prog 197 #[v] w (bV (qR n) 7 60 ok l w):=by
 obtain⟨a,c,rfl,o⟩:=h.slice;unfold bV
 rcases a with _|k
 .have C:=kN (bC n) qe h;subst C;have heq:=Lib.run_eql_slice_nil (P:=prog) w 57 60 none 0 c 0 0 underlying57;clear h;go_enter func197,ntmps197;exact BV
 .obtain⟨E,F,cs,b,h1,h2,_⟩:=h;injection b with b _ A;subst b A;have heq:=Lib.run_eql_slice_nil (P:=prog) w 57 60 (some k) l.length c 0 0 underlying57;have d:Below w.heap.size w (w.alloc (.cells #[] 60)):=(Below.refl _ _).alloc (lR _) _;have g:=aA (World.ownsRow_made (e:=60) w #[] 0 (lR _) (by simp[maxLen]) rfl:(w.alloc (.cells #[] 60)).ownsRow w.heap.size 60 7 (.slice (some ⟨w.heap.size,0,none⟩) 0 0) 0 []);have t:=aA (h2.len (fun _ _ f=>(bC n).len f));have x:=aA (h2.aEl (fun _ _ f=>(bC n).one f));obtain⟨z,s,r,j⟩:=dH (h1.lt.below d) h2 d o;clear h1 h2 d o;go_enter func197,ntmps197;go_wp2_with (at_builtin;refine fS aDl rfl (.tmp 5) (.tmp 6) rfl w.heap.size (.slice (some ⟨w.heap.size,0,none⟩) 0 0) 0 [] rfl g.o (some k) l.length c cs rfl t.o (z.o.more qs) x.o (by have:=j.o;unfold maxLen;omega) (qA j.o) qs ?_;intro D c1 w1 q m B;have i:=aA (dY g.o r.o m (lR _) qs);have y:=aA q;clear q m B)
  go_returns;have p:=y.o;simp only[Nat.zero_add,List.nil_append] at p ⊢;exact⟨_,rfl,lV (bC n) s.o i.o p,i.o⟩
end Go.Proofs.YthcgdgkpgdjahaaGreatDoor
