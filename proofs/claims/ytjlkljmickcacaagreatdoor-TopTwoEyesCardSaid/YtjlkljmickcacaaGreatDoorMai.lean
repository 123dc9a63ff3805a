/- Lemmas. -/
import Derived.Test.YtjlkljmickcacaaGreatDoorMah
namespace Go.Proofs.YtjlkljmickcacaaGreatDoor
open Go.RowKit
set_option linter.unusedVariables false
set_option linter.unusedSimpArgs false
set_option maxHeartbeats 16000000
open _root_.Go.Proofs.Tryz
set_option maxRecDepth 20000
section
open Pv
abbrev pD(Q:Nat)(a:oD)(m b:Nat)(sy:Int):Obj:= .cells #[.int .i64 (Q:Int),.slice a m b,.int .i64 sy,.int .i64 0,.bool false] 117
theorem Hz(D Q m b:Nat)(a:oD)(sy:Int)(w:World)(c:Q<=2000000)(hm:m<=Q)(h:w.heap[D]? =some (pD Q a m b sy)):Calls prog 120 #[.pointer (some ⟨D,0,none⟩)] w (aP (.int .i64 ((Q:Int) - (m:Int))) w):=by
 obtain⟨⟨d0,d1,d2,d3,d4⟩,_⟩:=dJ h;have e:=aD h;have d:IntKind.i64.wrap ((Q:Int) - (m:Int))=(Q:Int) - (m:Int):=IntWalk.i64_in _ qo;go_enter func120,ntmps120;go_upto_region 1 with (fail)
 go_quiet (fail)
 go_wp2;go_ret;exact⟨rfl,gB (Below.refl _ _) ⟨_,rfl⟩⟩
theorem PD(D Q m b:Nat)(a:oD)(sy:Int)(w:World)(h:w.heap[D]? =some (pD Q a m b sy)):Calls prog 122 #[.pointer (some ⟨D,0,none⟩)] w (fun e w'=>e=.returned (.bool false)/\w'=w):=by
 obtain⟨⟨d0,d1,d2,d3,d4⟩,_⟩:=dJ h;have c:=aD h;go_enter func122,ntmps122;go_wp2;go_ret;exact⟨rfl,rfl⟩
theorem PE(D Q m c:Nat)(a:oD)(sy:Int)(w:World)(h:w.heap[D]? =some (pD Q a m c sy)):Calls prog 68 #[.pointer (some ⟨D,0,none⟩)] w (fun e w'=>e=.returned (.int .i64 0)/\w'.heap[D]? =some (pD Q a m c (m:Int))/\aN (fun b=>b≠D) w w'):=by
 have d:=aA (PD D Q m c a sy w h);have H:=aA h;obtain⟨⟨d0,d1,d2,d3,d4⟩,f0,f1,f2,f3,f4⟩:=dJ h;have f:=aD h;clear h;go_enter func68,ntmps68;go_upto_region 3 with (go_at_call 122;refine d.o.mono ?_;rintro e w1 ⟨rfl,rfl⟩)
 go_wp2;go_ret;exact⟨rfl,aG H.o 2 _,aI _⟩
theorem Al{w:World}{B:Nat}{a:oD}{n c:Nat}{l:lU}(h:w.ownsRow B 5 1 (.slice a n c) l.length (bF l)):jF w (fun b=>B<=b/\b<w.heap.size) a (bF l):=by
 obtain⟨k,m,e,_,h3,h4⟩:=lX h;injection e with f o p;subst f;intro j;obtain⟨b,off,d,i,g⟩:=h3 j;exact⟨b,off,d,⟨h4 _ d,i⟩,g⟩
theorem YB(D Q k:Nat)(g:oD)(sy:Int)(bs:lU)(a:oD)(c:Nat)(p:lU)(w:World)(C:Q<=1000000)(h:w.heap[D]? =some (pD Q g bs.length k sy))(d:Sl w w.heap.size g (bF bs))(hp:Sl w w.heap.size a (bF p))(h0:0<p.length)(G:bs.length+p.length<=Q):
 Calls prog 66 #[.pointer (some ⟨D,0,none⟩),.slice a p.length c] w (fun e w'=>e=.returned (.int .i64 0)/\(∃(l:lU) (A:oD) (i:Nat),l.length=bs.length+p.length/\w'.heap[D]? =some (pD Q A l.length i sy)/\jF w' (fun b=>w.heap.size<=b/\b<w'.heap.size) A (bF l))/\aN (fun b=>b≠D) w w'):=by
 obtain⟨z,H,B,n⟩:=dH (Hz D Q bs.length k g sy w qo qo h) h (And.intro d hp) (And.intro G (And.intro h0 C));unfold aP at z;have W:¬((Q:Int) - (bs.length:Int)<(p.length:Int)):=qo;obtain⟨⟨d0,d1,d2,d3,d4⟩,_⟩:=dJ h;have q:=aD h;clear h d hp G h0 C;go_enter func66,ntmps66;go_wp2_with fail;refine z.o.mono ?_;rintro e w1 ⟨rfl,t⟩;obtain⟨s,o⟩:=xE (w1.alloc (.cells #[.slice g bs.length k,.slice a p.length c] 93));have E:Below w1.heap.size w1 s:=by rw[o];exact aB _ _
 have I:s.heap[w1.heap.size]? =some (.cells #[.slice g bs.length k,.slice a p.length c] 93 (0,0)):=by rw[o];exact aK _ _ _ rfl
 have j:=aA (aC t E);obtain⟨y,H1,T⟩:=aY (KH _ [bs,p] s (UA (cs:=[.slice g bs.length k,.slice a p.length c]) (c:=2) I ⟨[_],_,rfl,CU (B.o.1.on j.o) (qA n.o),⟨[_],[],rfl,CU (B.o.2.on j.o) (qA n.o),rfl⟩⟩ (by show 2<=1000;omega)) (bs.length+p.length) (by simp only[uG,List.length_cons,List.length_nil,List.take_succ_cons,List.take_zero,List.map_cons,List.map_nil,List.sum_cons,List.sum_nil];omega) (qA n.o) (qA n.o)) (aE H.o t) o;clear o E I d0 d1 d2 d3 d4 q t;obtain⟨⟨d0,d1,d2,d3,d4⟩,_⟩:=dJ H1.o;have q:=aD H1.o;go_wp2_with fail;rw[<-T.o];refine y.o.mono ?_;rintro e M ⟨l,A,i,rfl,J,_,K,F⟩;obtain⟨O,P,x⟩:=aY J (Al K) (aC j.o F);have r:=qK H x.o;clear J K F d0 d1 d2 d3 d4 q y;obtain⟨⟨d0,d1,d2,d3,d4⟩,f0,f1,f2,f3,f4⟩:=dJ r.o;have q:=aD r.o;obtain⟨f,m⟩:=xE (M.setCell ⟨D,1,none⟩ (.slice A l.length i));have v:Hid (f.heap[D]? =some (pD Q A l.length i sy)):=aA (by rw[m];exact aG r.o 1 _);have R:Hid (aN (fun b=>b≠D) w f):=aA (by rw[m];exact(aJ x.o).trans (aI _));have S:Hid (jF f (fun b=>w.heap.size<=b/\b<f.heap.size) A (bF l)):=aA (by
  have L:aN (fun b=>b≠D) M f:=by rw[m];exact aI _
  have V:=aD H.o;exact(P.o.aDw (L.mono fun b _ d e=>qD d.1 j.o.size)).more fun b d=>⟨lT j.o.size d.1,lL d.2 L.size⟩)
 have N:=aA (PD D Q l.length i A sy f v.o);have U:=aA m;clear m;go_wp2_with fail;rw[<-U.o];refine N.o.mono ?_;rintro e X ⟨rfl,rfl⟩;go_wp2;go_ret;exact⟨rfl,⟨l,A,i,O.o,v.o,S.o⟩,R.o⟩
end
section
variable {P:Program} {w:World}
theorem CV(g:Nat)(cs:Array Value):aN (fun b=>b≠g) w (w.setRow g cs):=⟨rfl,rfl,rfl,by simp[World.setRow],fun k _ a=>setRow_other w g k cs a⟩
theorem Ia{o:Oper}{a:Act}{K:Act->World->Prop}{Q:Exit->Act->World->Prop}(ty:TypeId)(x y:Operand)(f:o.op=.store ty x y)(g:Nat)(cells:Array Value)(i:a.eval x=.pointer (some ⟨g,0,none⟩))(j:a.eval y=.agg cells)(t:TypeId)(c:Array Value)(d:w.heap[g]? =some (.cells c t (0,0)))(e:(P.info? ty).map (·.size)=some cells.size)(hold:c.size=cells.size)(h1:cells.all (·.oneCell')=true)
 (h:∀w',Hid (w'.heap[g]? =some (.cells cells t (0,0)))->Hid (aN (fun b=>b≠g) w w')->K (a.put o.dst undef) w'):o.wp P a w K Q:=
 wp_store_row ty x y f g cells i j t c d e hold h1 (h _ (setRow_heap w g c cells t (0,0) d) (CV g cells))
theorem dP{ops:Array Oper}{rest:List Oper}{o:Oper}{a:Act}{Q:Exit->Act->World->Prop}(f:o.guard=none)(ty:TypeId)(x y:Operand)(j:o.op=.store ty x y)(g:Nat)(cells:Array Value)(k:a.eval x=.pointer (some ⟨g,0,none⟩))(l:a.eval y=.agg cells)(t:TypeId)(c:Array Value)(e:w.heap[g]? =some (.cells c t (0,0)))(i:(P.info? ty).map (·.size)=some cells.size)(hold:c.size=cells.size)(h1:cells.all (·.oneCell')=true)
 (h:∀w',Hid (w'.heap[g]? =some (.cells cells t (0,0)))->Hid (aN (fun b=>b≠g) w w')->wpList P ops Q rest (a.put o.dst undef) w'):wpList P ops Q (o::rest) a w:=
 wpList_plain f fun _ d=>Ia ty x y j g cells k l t c e i hold h1 fun w' h2 h3=>d _ _ (h w' h2 h3)
theorem lE{ops:Array Oper}{o:Oper}{a:Act}{K:Act->World->Prop}{Q:Exit->Act->World->Prop}{E:Prop}(e:o.guard=none)(ty:TypeId)(x y:Operand)(i:o.op=.store ty x y)(g:Nat)(cells:Array Value)(j:a.eval x=.pointer (some ⟨g,0,none⟩))(k:a.eval y=.agg cells)(t:TypeId)(c:Array Value)(d:w.heap[g]? =some (.cells c t (0,0)))(f:(P.info? ty).map (·.size)=some cells.size)(hold:c.size=cells.size)(h1:cells.all (·.oneCell')=true)
 (h:∀w',Hid (w'.heap[g]? =some (.cells cells t (0,0)))->Hid (aN (fun b=>b≠g) w w')->K (a.put o.dst undef) w'):if Region.wanted o (yielded ops a.tmps)=true then Oper.wp P o a w K Q else E:=by
 rw[iP (by simp[Region.wanted,e])];exact Ia ty x y i g cells j k t c d f hold h1 h
end
theorem tD{s:bY}(h:s.size<=cP):s.size<=maxLen:=by unfold cP at h;unfold maxLen;omega
theorem Cu(k:Int)(w:World):Calls prog 171 #[.int .i64 k] w (aP (.bool (decide (k=3\/k=5))) w):=by
 unfold aP;go_enter func171,ntmps171;go_wp2
 all_goals go_returns
 all_goals exact⟨bH (by rw[Bool.eq_iff_iff];simp[*]<;>(intros;omega)),Below.refl _ _⟩
theorem wK:∀(x y:lU),Op.bytesLess x y=decide (x<y)
 | [],[]=>by simp[Op.bytesLess]
 | [],b::y=>by simp[Op.bytesLess]
 |a::x,[]=>by simp[Op.bytesLess]
 |a::x,b::y=>by
  rw[Op.bytesLess,wK x y,Bool.eq_iff_iff,decide_eq_true_iff,List.cons_lt_cons_iff];simp only[Bool.or_eq_true,Bool.and_eq_true,decide_eq_true_eq,bQ]
def tE(a b:V3)(w:World)(e:Ending)(w':World):Prop:=e=.returned (.tuple #[.bool (kB a b).1,.int .i64 (kB a b).2])/\Below w.heap.size w w'
theorem CW(a b:V3)(ha:cT a)(J:cT b)(w:World):Calls prog 261 #[dE a,dE b] w (tE a b w):=by
 obtain⟨d,f,j⟩:=a;obtain⟨g,i,k⟩:=b;have l:=aA (fun w=>nT d f j (tD ha.2.2) w);have m:=aA (fun w=>nT g i k (tD J.2.2) w);unfold lM at l m;unfold dE;simp only;have G:=aA (aC (aB w (.cells #[.int .i64 d,.int .i64 f,.string j] 48)) (aB _ (.cells #[.int .i64 g,.int .i64 i,.string k] 48)));obtain⟨ra,y⟩:∃r,aT (d,f,j)=r:=⟨_,rfl⟩;obtain⟨L,z⟩:∃r,aT (g,i,k)=r:=⟨_,rfl⟩;rw[y] at l;rw[z] at m;have H:=aA y;have I:=aA z;clear ha J y z;have A:=aA (aE (aK w (.cells #[.int .i64 d,.int .i64 f,.string j] 48) _ rfl) (aB (w.alloc (.cells #[.int .i64 d,.int .i64 f,.string j] 48)) (.cells #[.int .i64 g,.int .i64 i,.string k] 48)));have B:Hid (((w.alloc (.cells #[.int .i64 d,.int .i64 f,.string j] 48)).alloc (.cells #[.int .i64 g,.int .i64 i,.string k] 48)).heap[w.heap.size+1]? =some (.cells #[.int .i64 g,.int .i64 i,.string k] 48 (0,0))):=aA (aK (w.alloc (.cells #[.int .i64 d,.int .i64 f,.string j] 48)) (.cells #[.int .i64 g,.int .i64 i,.string k] 48) _ qs)
 cases ra
 .go_enter func261,ntmps261;go_wp2_with fail;refine(l.o _).mono ?_;rintro e w1 ⟨rfl,c⟩;have v:=qB G c;clear c l;go_wp2;go_returns;unfold tE kB;rw[iP (.inl H.o)];exact⟨rfl,v.o⟩
 .go_enter func261,ntmps261;go_wp2_with fail;refine(l.o _).mono ?_;rintro e w1 ⟨rfl,c⟩;have v:=qB G c
  try clear n o p C
  replace A:=qK A c;obtain⟨⟨n,o,p⟩,_⟩:=cE A.o;have C:=aD A.o
  try clear q s t D
  replace B:=qK B c;obtain⟨⟨q,s,t⟩,_⟩:=cE B.o;have D:=aD B.o;clear c l;go_wp2_with fail;refine(m.o _).mono ?_;rintro e w2 ⟨rfl,c⟩;have x:=qB v c
  try clear n o p C
  replace A:=qK A c;obtain⟨⟨n,o,p⟩,_⟩:=cE A.o;have C:=aD A.o
  try clear q s t D
  replace B:=qK B c;obtain⟨⟨q,s,t⟩,_⟩:=cE B.o;have D:=aD B.o;clear c m
  cases L
  .go_wp2;go_returns;unfold tE kB;rw[iP (.inr I.o)];exact⟨rfl,x.o⟩
  .go_wp2_with (go_at_call 171;refine(Cu _ _).mono ?_;rintro e N ⟨rfl,c⟩;have K:=qB x c;have E:=qK A c;have F:=qK B c;clear c;obtain⟨⟨a0,M,a2⟩,_⟩:=cE E.o;obtain⟨⟨b0,b1,b2⟩,_⟩:=cE F.o;have O:=aD E.o;have P:=aD F.o)
   all_goals go_returns
   all_goals
    unfold tE kB;rw[iN (fun h=>h.elim (fun h=>by rw[H.o] at h;cases h) (fun h=>by rw[I.o] at h;cases h))];refine⟨?_,?_⟩
    .simp_all [wK]
    .first|exact K.o|exact x.o
theorem BL{p:Prop}(h:p:=by
 go_wp2;go_returns;exact⟨_,rfl,aM.nil,Below.refl _ _⟩):p:=h
theorem KI{p:Prop}(h:p:=by
 have hk1:¬(k:Int)<(l.length:Int):=qo;obtain rfl:k=l.length:=qo;have HF:=aA (PF HR.o);clear HR;go_wp2;go_returns;exact⟨by rw[HF.o];rfl,HB.o⟩):p:=h
theorem KJ{p:Prop}(h:p:=by
 unfold aP at HI;have HL:Hid (∀g,PR l[k]=g->((if g=true then eU PR l=(k:Int) else ∀i (hi:i<l.length),i<k+1->PR l[i]=false):Prop)):=aA (fun g hg=>by
  cases g
  .rw[iN qe];intro i hi h
   rcases Nat.lt_or_ge i k with h1|h1
   .exact HR.o i hi h1
   .obtain rfl:i=k:=qo;exact hg
  .rw[iP rfl];exact IZ hlt HR.o hg)
 clear HR hcl;generalize hx:l[k]=x at *;generalize PR x=g at *;clear hx;go_wp2_with fail;refine HI.o.mono ?_;rintro e w' ⟨rfl,hb'⟩;have HB':=qB HB hb';clear HI hb'
 cases g
 .have HF:=aA (HL.o false rfl);clear HL;go_wp2;go_roundw
  case rel=>exact⟨k+1,qo,by go_num,aA (by have:=HF.o;rwa [iN qe] at this),HB'⟩
  case measure=>simp[intOf];omega
 .have HF:=aA (HL.o true rfl);clear HL;go_wp2;go_returns;exact⟨by have:=HF.o;rw[iP trivial] at this;rw[this];rfl,HB'.o⟩):p:=h
theorem Yv:dZ prog 175 48 3 32:=fQ (z:= .agg #[.int .i64 0,.int .i64 0,.string ByteArray.empty]) underlying175 (by kernel_rfl) rfl qe
theorem IY:dZ prog 134 180 3 48:=fQ (z:= .agg #[.int .i64 0,.string ByteArray.empty,.slice none 0 0]) underlying134 (by kernel_rfl) rfl qe
theorem lV{α:Type}{R:Rep α}{s:Nat}(F:Firm R s){e:TypeId}{w w':World}{ok:nP}{cs:List Value}{l:List α}{v:Value}(h:aX (R w ok) cs l)(c:Below w.heap.size w w')(d:w'.ownsRow w.heap.size e s v l.length cs):aM R s e w' w.heap.size ok v l:=by
 refine⟨cs,d,h.mono fun r x f=> ?_⟩;refine F.more (F.aDw (F.inb f) (aJ c)) fun b a=>⟨a.1,lL a.2 c.size,fun e=> ?_⟩
 have:=(d.lt b e.symm).1;have:=a.2;omega
theorem kL{α:Type}{R:Rep α}{s:Nat}(F:Firm R s)(i:0<s){w:World}{ok:nP}{n c:Nat}{l:List α}(h:aH R w ok (.slice none n c) l):l=[]:=by
 obtain⟨a,j,cs,e,h1,h2,_⟩:=h;injection e with f k m;subst f;by_cases d:cs=[]
 .subst d;exact h2.aEq (fun _ _ g=>F.len g) i
 .obtain⟨b,off,e,_⟩:=h1 d;cases e
theorem eK{α:Type}{enc:α->List Value}{good:α->Prop}{s:Nat}{e:TypeId}{w:World}{base:Nat}{ok ok':nP}{v:Value}{l:List α}(h:aM (mT enc good) s e w base ok v l):aM (mT enc good) s e w base ok' v l:=by
 obtain⟨cs,h1,h2⟩:=h;exact⟨cs,h1,h2.mono fun r x a=>a⟩
def bV{α:Type}(R:Rep α)(s:Nat)(e:TypeId)(ok:nP)(l:List α)(w:World)(a:Ending)(w':World):Prop:=
 ∃v,a=.returned v/\aM R s e w' w.heap.size ok v l/\Below w.heap.size w w'
theorem Cv{ok:nP}(v:Value)(l:List V3)(w:World)(h:aH VR w ok v l):Calls prog 260 #[v] w (bV VR 3 48 ok l w):=by
 obtain⟨a,c,rfl,n⟩:=h.slice;unfold bV
 rcases a with _|k
 .have B:=kL bG qe h;subst B;have heq:=Lib.run_eql_slice_nil (P:=prog) w 175 48 none 0 c 0 0 underlying175;clear h;go_enter func260,ntmps260;exact BL
 .obtain⟨D,E,cs,b,h1,h2,_⟩:=h;injection b with b _ z;subst b z;have heq:=Lib.run_eql_slice_nil (P:=prog) w 175 48 (some k) l.length c 0 0 underlying175;have d:Below w.heap.size w (w.alloc (.cells #[] 48)):=(Below.refl _ _).alloc (lR _) _;have g:=aA (World.ownsRow_made (e:=48) w #[] 0 (lR _) (by simp[maxLen]) rfl:(w.alloc (.cells #[] 48)).ownsRow w.heap.size 48 3 (.slice (some ⟨w.heap.size,0,none⟩) 0 0) 0 []);have s:=aA (h2.len (fun _ _ f=>bG.len f));have t:=aA (h2.aDX (fun _ _ f=>bG.one f));obtain⟨y,r,q,j⟩:=dH (h1.lt.below d) h2 d n;clear h1 h2 d n;go_enter func260,ntmps260;go_wp2_with (at_builtin;refine fR Yv rfl (.tmp 5) (.tmp 6) rfl w.heap.size (.slice (some ⟨w.heap.size,0,none⟩) 0 0) 0 [] rfl g.o (some k) l.length c cs rfl s.o (y.o.more qs) t.o (by have:=j.o;unfold maxLen;omega) (qA j.o) qs ?_;intro C c1 w1 p m A;have i:=aA (dY g.o q.o m (lR _) qs);have x:=aA p;clear p m A)
  go_returns;have o:=x.o;simp only[Nat.zero_add,List.nil_append] at o ⊢;exact⟨_,rfl,lV bG r.o i.o o,i.o⟩
def eU{α:Type}(p:α->Bool)(l:List α):Int:=if l.findIdx p<l.length then (l.findIdx p:Int) else -1
theorem IZ{α:Type}{p:α->Bool}{l:List α}{k:Nat}(a:k<l.length)(b:∀i (c:i<l.length),i<k->p l[i]=false)(h:p l[k]=true):eU p l=(k:Int):=by
 have e:l.findIdx p=k:=(List.findIdx_eq a).2 ⟨h,fun j hj=>b j qo hj⟩;unfold eU;rw[e,iP a]
theorem PF{α:Type}{p:α->Bool}{l:List α}(b:∀i (a:i<l.length),i<l.length->p l[i]=false):eU p l= -1:=by
 have e:l.findIdx p=l.length:=by
  rw[List.findIdx_eq_length];intro x c;obtain⟨i,a,rfl⟩:=List.getElem_of_mem c;exact b i a a
 unfold eU;rw[e,iN qo]
theorem tF{α:Type}(p:α->Bool)(l:List α):decide (0<=eU p l)=l.any p:=by
 unfold eU;rw[Bool.eq_iff_iff,decide_eq_true_iff,List.any_eq_true];by_cases h:l.findIdx p<l.length
 .rw[iP h];exact⟨fun _=>⟨_,List.getElem_mem h,List.findIdx_getElem (w:=h)⟩,fun _=>by omega⟩
 .rw[iN h];exact⟨fun h=>by omega,fun⟨x,a,hp⟩=>absurd (List.findIdx_lt_length_of_exists ⟨x,a,hp⟩) h⟩
def jG(w:World)(p i:Nat)(v:Value):Prop:=w.cell? ⟨p,i,none⟩=some v/\p<w.heap.size
theorem jG.on{w w':World}{p i:Nat}{v:Value}(h:jG w p i v)(a:Below w.heap.size w w'):jG w' p i v:=⟨(a.cell (p:=⟨p,i,none⟩) h.2).trans h.1,lL h.2 a.size⟩
theorem Cw(x:Gv)(b:oD)(c:Nat)(C:Int)(N:bY)(p q:Nat)(w:World)(hp:jG w p 0 (.int .i64 C))(a:jG w q 0 (.string N)):
 Calls prog 280 #[.agg #[.int .i64 x.1,.string x.2.1,.slice b x.2.2.length c],.pointer (some ⟨p,0,none⟩),.pointer (some ⟨q,0,none⟩)] w (aP (.bool (jY C N x)) w):=by
 unfold aP;have h1:p≠w.heap.size:=qA hp.2;have h2:q≠w.heap.size:=qA a.2;obtain⟨hp,d⟩:=hp;obtain⟨a,e⟩:=a;go_enter func280,ntmps280;go_wp2
 .rename_i h;go_returns;refine⟨?_,aB _ _⟩;show Ending.returned (.bool (x.2.1.toList==N.toList))=_;rw[iY];unfold jY;rw[dX h];rfl
 .rename_i h;go_returns;refine⟨?_,aB _ _⟩;show Ending.returned (.bool false)=_;unfold jY;rw[dF h];rfl
theorem Ib{ok:nP}(v:Value)(l:List Gv)(C:Int)(N:bY)(p q:Nat)(w:World)(h:aH jU w ok v l)(d:jG w p 0 (.int .i64 C)/\jG w q 0 (.string N)):Calls prog 279 #[v,.func (.func 280) #[] #[.pointer (some ⟨p,0,none⟩),.pointer (some ⟨q,0,none⟩)]] w (aP (.int .i64 (eU (jY C N) l)) w):=by
 obtain⟨a,c,rfl,D⟩:=h.slice;have t:=aA h;have j:=aA (fun wr (o:Below w.heap.size w wr)=>(⟨d.1.on o,d.2.on o⟩:jG wr p 0 (.int .i64 C)/\jG wr q 0 (.string N)));clear h d;obtain⟨PR,f⟩:∃PR:Gv->Bool,PR=(jY C N):=⟨_,rfl⟩;have s:=aA f;rw[<-f];clear f;unfold aP;go_enter func279,ntmps279;go_wp2;go_loopw [5,8] (fun _ i wr=>∃k:Nat,k<=l.length/\i=.int .i64 k/\Hid (∀i (hi:i<l.length),i<k->PR l[i]=false)/\Hid (Below w.heap.size w wr)) (fun _ i _=>l.length - (intOf i).toNat)
 case atStart=>exact BK
 case round=>
  obtain⟨k,B,rfl,HR,HB⟩:=hrel;by_cases hlt:k<l.length
  .have hk1:(k:Int)<(l.length:Int):=qo;obtain⟨b,off,r,rfl,_,A,⟨vb,rfl,y⟩,hcl⟩:=aH.at cA (t.o.on cA HB.o) hlt qe;obtain⟨m,n,rfl,_⟩:=y.2.2.slice;obtain⟨z,E,F⟩:=cR3 hcl;rw[Nat.add_zero] at z;have HI:Hid (Calls prog 280 #[.agg #[.int .i64 l[k].1,.string l[k].2.1,.slice m l[k].2.2.length n],.pointer (some ⟨p,0,none⟩),.pointer (some ⟨q,0,none⟩)] wr (aP (.bool (PR l[k])) wr)):=by rw[s.o];exact aA (Cw l[k] m n C N p q wr (j.o wr HB.o).1 (j.o wr HB.o).2)
   exact KJ
  .exact KI
theorem Cx(l:List Gv)(C:Int)(N:bY):mV l C N=eU (jY C N) l:=rfl
theorem Cy{ok:nP}(v:Value)(l:List Gv)(C:Int)(N:bY)(w:World)(h:aH jU w ok v l):
 Calls prog 259 #[v,.int .i64 C,.string N] w (aP (.int .i64 (mV l C N)) w):=by
 obtain⟨h1,h2,h3,h4,h5⟩:=Ha w (.int .i64 C) (.string N) 3 9;have d:=aA (Ib v l C N w.heap.size (w.heap.size+1) _ (h.on cA h5) ⟨⟨h1,h3⟩,⟨h2,h4⟩⟩);have b:=aA h5;obtain⟨a,c,rfl,i⟩:=h.slice;clear h1 h2 h3 h4 h5 h;rw[Cx];unfold aP at *;generalize eU (jY C N) l=pl at *;go_enter func259,ntmps259;go_wp2_with fail;refine d.o.mono ?_;rintro e w' ⟨rfl,f⟩;have g:=qB b f;clear d f b;go_wp2;go_returns;exact⟨rfl,g.o⟩
def tG(l:List Gv)(a:At)(w:World)(e:Ending)(w':World):Prop:=
 ∃v,e=.returned (.tuple #[v,.int .i64 (oL l a).2])/\aH VR w' (fun b=>w.heap.size<=b) v (oL l a).1/\Below w.heap.size w w'
theorem Ic(l:List Gv)(C:Int)(N:bY):(mV l C N= -1/\mW l C N=[])\/∃(k:Nat) (h:k<l.length),mV l C N=(k:Int)/\mW l C N=l[k].2.2:=by
 by_cases h:mU l C N<l.length
 .refine .inr ⟨mU l C N,h,?_,Xy h⟩;unfold mV;rw[iP h]
 .refine .inl ⟨?_,Ny h⟩;unfold mV;rw[iN h]
theorem UC{ok:nP}(v:Value)(l:List Gv)(at_:At)(w:World)(h:aH jU w ok v l):Calls prog 240 #[v,oP at_] w (tG l at_ w):=by
 obtain⟨cat,name,must⟩:=at_;have E:=aB w (.cells #[.int .i64 cat,.string name,.bool must] 292);obtain⟨y,j,R,d,L⟩:=gH (Cy v l cat name _ (h.on cA E)) (Ic l cat name) h (aK w (.cells #[.int .i64 cat,.string name,.bool must] 292) _ rfl) E;obtain⟨a,c,rfl,ad⟩:=h.slice;obtain⟨B,m⟩:∃B,mW l cat name=B:=⟨_,rfl⟩;have J:Hid (∀v w',(B=[]/\must=true)->aH VR w' (fun b=>w.heap.size<=b) v []->Below w.heap.size w w'->tG l ⟨cat,name,must⟩ w (.returned (.tuple #[v,.int .i64 4])) w'):=aA (fun v w' h1 h2 h3=>by
  unfold tG oL;simp only[m];rw[iP h1];exact⟨v,rfl,h2,h3⟩)
 have z:Hid (∀v w',¬(B=[]/\must=true)->aH VR w' (fun b=>w.heap.size<=b) v B->Below w.heap.size w w'->tG l ⟨cat,name,must⟩ w (.returned (.tuple #[v,.int .i64 0])) w'):=aA (fun v w' h1 h2 h3=>by
  unfold tG oL;simp only[m];rw[iN h1];exact⟨v,rfl,h2,h3⟩)
 rw[m] at j;unfold oP;unfold aP at y;clear E h m;generalize mV l cat name=pl at *;go_enter func240,ntmps240;go_wp2_with fail;refine y.o.mono ?_;rintro e w1 ⟨rfl,F⟩;have f:=qB L F
 try clear p q s I
 replace d:=qK d F;obtain⟨⟨p,q,s⟩,_⟩:=cE d.o;have I:=aD d.o;clear y F L
 rcases j.o with ⟨C,i⟩|⟨k,S,C,i⟩
 .subst C;have g:=aA i;clear j i
  cases must
  .go_wp2;go_returns;exact z.o _ _ qs (by rw[g.o];exact aH.nil) f.o
  .go_wp2;go_returns;exact J.o _ _ ⟨g.o,(by trivial)⟩ aH.nil f.o
 .subst C;obtain⟨b,off,r,rfl,_,Z,⟨vb,rfl,N⟩,M⟩:=aH.at cA (R.o.on cA f.o) S qe;have n:=N.2.2;rw[<-i] at n;obtain⟨W,X,rfl,O⟩:=n.slice;obtain⟨P,U,V⟩:=cR3 M;rw[Nat.add_zero] at P;have ab:(k:Int)<(l.length:Int):=qo;have aa:decide ((k:Int) ≥ 0)=true:=dX qo;have x:=aA (Cv _ _ w1 n);unfold bV at x;have Q:=aA O;clear j N M i n O;go_wp2_with fail;refine x.o.mono ?_;rintro e w2 ⟨v,rfl,H,G⟩;obtain⟨A,Y,rfl⟩:=H.slice;have K:=aA ((eK (enc:=IN) (good:=cT) (ok':=fun b=>w.heap.size<=b) H).sl Q.o (fun b=>w.heap.size<=b) (fun b D _=>D) (fun b D _=>lT f.o.size D) bG);have t:=qB f G
  try clear p q s I
  replace d:=qK d G;obtain⟨⟨p,q,s⟩,_⟩:=cE d.o;have I:=aD d.o;clear x G H P U V f;by_cases o:B.length=0
  .have T:((B.length:Int)==0)=true:=bQ.2 qo;have g:=aA (List.eq_nil_of_length_eq_zero o);clear o
   cases must
   .go_wp2;go_returns;exact z.o _ _ qs K.o t.o
   .go_wp2;go_returns;exact J.o _ _ ⟨g.o,(by trivial)⟩ aH.nil t.o
  .have T:((B.length:Int)==0)=false:=bN.2 qo;have g:Hid (¬(B=[]/\must=true)):=aA (fun h=>o (by rw[h.1];rfl));clear o;go_wp2;go_returns;exact z.o _ _ g.o K.o t.o
theorem Cz:dZ prog 42 54 3 40:=fQ (z:= .agg #[.int .i64 0,.string ByteArray.empty,.string ByteArray.empty]) underlying42 (by kernel_rfl) rfl qe
theorem xJ:dZ prog 41 101 4 48:=fQ (z:= .agg #[.string ByteArray.empty,.int .i64 0,.int .i64 0,.string ByteArray.empty]) underlying41 (by kernel_rfl) rfl qe
theorem AD:dZ prog 26 44 5 96:=fQ (z:= .agg #[.string ByteArray.empty,.string ByteArray.empty,.string ByteArray.empty,.slice none 0 0,.slice none 0 0]) underlying26 (by kernel_rfl) rfl qe
theorem Td:dZ prog 27 186 7 88:=fQ (z:= .agg #[.int .i64 0,.int .i64 0,.string ByteArray.empty,.string ByteArray.empty,.string ByteArray.empty,.string ByteArray.empty,.bool false]) underlying27 (by kernel_rfl) rfl qe
theorem Te:dZ prog 28 189 3 40:=fQ (z:= .agg #[.int .i64 0,.string ByteArray.empty,.string ByteArray.empty]) underlying28 (by kernel_rfl) rfl qe
theorem Tf:dZ prog 29 177 2 32:=fQ (z:= .agg #[.string ByteArray.empty,.string ByteArray.empty]) underlying29 (by kernel_rfl) rfl qe
theorem aCQ:dZ prog 34 197 3 32:=fQ (z:= .agg #[.int .i64 0,.int .i64 0,.string ByteArray.empty]) underlying34 (by kernel_rfl) rfl qe
theorem aCR:dZ prog 319 294 7 72:=fQ (z:= .agg #[.int .i64 0,.string ByteArray.empty,.bool false,.int .i64 0,.int .i64 0,.int .i64 0,.string ByteArray.empty]) underlying319 (by kernel_rfl) rfl qe
theorem aCS:dZ prog 282 307 7 72:=fQ (z:= .agg #[.int .i64 0,.int .i64 0,.int .i64 0,.string ByteArray.empty,.int .i64 0,.string ByteArray.empty,.bool false]) underlying282 (by kernel_rfl) rfl qe
theorem aCT:dZ prog 32 284 5 96:=fQ (z:= .agg #[.string ByteArray.empty,.bool false,.slice none 0 0,.slice none 0 0,.slice none 0 0]) underlying32 (by kernel_rfl) rfl qe
theorem aCU:dZ prog 33 36 7 128:=fQ (z:= .agg #[.string ByteArray.empty,.bool false,.int .i64 0,.slice none 0 0,.slice none 0 0,.slice none 0 0,.slice none 0 0]) underlying33 (by kernel_rfl) rfl qe
theorem CX{ok:nP}(v:Value)(l:List uD)(w:World)(h:aH nB w ok v l):Calls prog 35 #[v] w (bV nB 3 54 ok l w):=by
 obtain⟨a,c,rfl,n⟩:=h.slice;unfold bV
 rcases a with _|k
 .have B:=kL bW qe h;subst B;have heq:=Lib.run_eql_slice_nil (P:=prog) w 42 54 none 0 c 0 0 underlying42;clear h;go_enter func35,ntmps35;exact BL
 .obtain⟨D,E,cs,b,h1,h2,_⟩:=h;injection b with b _ z;subst b z;have heq:=Lib.run_eql_slice_nil (P:=prog) w 42 54 (some k) l.length c 0 0 underlying42;have d:Below w.heap.size w (w.alloc (.cells #[] 54)):=(Below.refl _ _).alloc (lR _) _;have g:=aA (World.ownsRow_made (e:=54) w #[] 0 (lR _) (by simp[maxLen]) rfl:(w.alloc (.cells #[] 54)).ownsRow w.heap.size 54 3 (.slice (some ⟨w.heap.size,0,none⟩) 0 0) 0 []);have s:=aA (h2.len (fun _ _ f=>bW.len f));have t:=aA (h2.aDX (fun _ _ f=>bW.one f));obtain⟨y,r,q,j⟩:=dH (h1.lt.below d) h2 d n;clear h1 h2 d n;go_enter func35,ntmps35;go_wp2_with (at_builtin;refine fR Cz rfl (.tmp 5) (.tmp 6) rfl w.heap.size (.slice (some ⟨w.heap.size,0,none⟩) 0 0) 0 [] rfl g.o (some k) l.length c cs rfl s.o (y.o.more qs) t.o (by have:=j.o;unfold maxLen;omega) (qA j.o) qs ?_;intro C c1 w1 p m A;have i:=aA (dY g.o q.o m (lR _) qs);have x:=aA p;clear p m A)
  go_returns;have o:=x.o;simp only[Nat.zero_add,List.nil_append] at o ⊢;exact⟨_,rfl,lV bW r.o i.o o,i.o⟩
theorem UD{ok:nP}(v:Value)(l:List pX)(w:World)(h:aH lN w ok v l):Calls prog 34 #[v] w (bV lN 4 101 ok l w):=by
 obtain⟨a,c,rfl,n⟩:=h.slice;unfold bV
 rcases a with _|k
 .have B:=kL bP qe h;subst B;have heq:=Lib.run_eql_slice_nil (P:=prog) w 41 101 none 0 c 0 0 underlying41;clear h;go_enter func34,ntmps34;exact BL
 .obtain⟨D,E,cs,b,h1,h2,_⟩:=h;injection b with b _ z;subst b z;have heq:=Lib.run_eql_slice_nil (P:=prog) w 41 101 (some k) l.length c 0 0 underlying41;have d:Below w.heap.size w (w.alloc (.cells #[] 101)):=(Below.refl _ _).alloc (lR _) _;have g:=aA (World.ownsRow_made (e:=101) w #[] 0 (lR _) (by simp[maxLen]) rfl:(w.alloc (.cells #[] 101)).ownsRow w.heap.size 101 4 (.slice (some ⟨w.heap.size,0,none⟩) 0 0) 0 []);have s:=aA (h2.len (fun _ _ f=>bP.len f));have t:=aA (h2.aDX (fun _ _ f=>bP.one f));obtain⟨y,r,q,j⟩:=dH (h1.lt.below d) h2 d n;clear h1 h2 d n;go_enter func34,ntmps34;go_wp2_with (at_builtin;refine fR xJ rfl (.tmp 5) (.tmp 6) rfl w.heap.size (.slice (some ⟨w.heap.size,0,none⟩) 0 0) 0 [] rfl g.o (some k) l.length c cs rfl s.o (y.o.more qs) t.o (by have:=j.o;unfold maxLen;omega) (qA j.o) qs ?_;intro C c1 w1 p m A;have i:=aA (dY g.o q.o m (lR _) qs);have x:=aA p;clear p m A)
  go_returns;have o:=x.o;simp only[Nat.zero_add,List.nil_append] at o ⊢;exact⟨_,rfl,lV bP r.o i.o o,i.o⟩
theorem CY{ok:nP}(v:Value)(l:List cB)(w:World)(h:aH qI w ok v l):Calls prog 104 #[v] w (bV qI 5 44 ok l w):=by
 obtain⟨a,c,rfl,n⟩:=h.slice;unfold bV
 rcases a with _|k
 .have B:=kL dO qe h;subst B;have heq:=Lib.run_eql_slice_nil (P:=prog) w 26 44 none 0 c 0 0 underlying26;clear h;go_enter func104,ntmps104;exact BL
 .obtain⟨D,E,cs,b,h1,h2,_⟩:=h;injection b with b _ z;subst b z;have heq:=Lib.run_eql_slice_nil (P:=prog) w 26 44 (some k) l.length c 0 0 underlying26;have d:Below w.heap.size w (w.alloc (.cells #[] 44)):=(Below.refl _ _).alloc (lR _) _;have g:=aA (World.ownsRow_made (e:=44) w #[] 0 (lR _) (by simp[maxLen]) rfl:(w.alloc (.cells #[] 44)).ownsRow w.heap.size 44 5 (.slice (some ⟨w.heap.size,0,none⟩) 0 0) 0 []);have s:=aA (h2.len (fun _ _ f=>dO.len f));have t:=aA (h2.aDX (fun _ _ f=>dO.one f));obtain⟨y,r,q,j⟩:=dH (h1.lt.below d) h2 d n;clear h1 h2 d n;go_enter func104,ntmps104;go_wp2_with (at_builtin;refine fR AD rfl (.tmp 5) (.tmp 6) rfl w.heap.size (.slice (some ⟨w.heap.size,0,none⟩) 0 0) 0 [] rfl g.o (some k) l.length c cs rfl s.o (y.o.more qs) t.o (by have:=j.o;unfold maxLen;omega) (qA j.o) qs ?_;intro C c1 w1 p m A;have i:=aA (dY g.o q.o m (lR _) qs);have x:=aA p;clear p m A)
  go_returns;have o:=x.o;simp only[Nat.zero_add,List.nil_append] at o ⊢;exact⟨_,rfl,lV dO r.o i.o o,i.o⟩
theorem CZ{ok:nP}(v:Value)(l:List wH)(w:World)(h:aH tB w ok v l):Calls prog 102 #[v] w (bV tB 7 186 ok l w):=by
 obtain⟨a,c,rfl,n⟩:=h.slice;unfold bV
 rcases a with _|k
 .have B:=kL cV qe h;subst B;have heq:=Lib.run_eql_slice_nil (P:=prog) w 27 186 none 0 c 0 0 underlying27;clear h;go_enter func102,ntmps102;exact BL
 .obtain⟨D,E,cs,b,h1,h2,_⟩:=h;injection b with b _ z;subst b z;have heq:=Lib.run_eql_slice_nil (P:=prog) w 27 186 (some k) l.length c 0 0 underlying27;have d:Below w.heap.size w (w.alloc (.cells #[] 186)):=(Below.refl _ _).alloc (lR _) _;have g:=aA (World.ownsRow_made (e:=186) w #[] 0 (lR _) (by simp[maxLen]) rfl:(w.alloc (.cells #[] 186)).ownsRow w.heap.size 186 7 (.slice (some ⟨w.heap.size,0,none⟩) 0 0) 0 []);have s:=aA (h2.len (fun _ _ f=>cV.len f));have t:=aA (h2.aDX (fun _ _ f=>cV.one f));obtain⟨y,r,q,j⟩:=dH (h1.lt.below d) h2 d n;clear h1 h2 d n;go_enter func102,ntmps102;go_wp2_with (at_builtin;refine fR Td rfl (.tmp 5) (.tmp 6) rfl w.heap.size (.slice (some ⟨w.heap.size,0,none⟩) 0 0) 0 [] rfl g.o (some k) l.length c cs rfl s.o (y.o.more qs) t.o (by have:=j.o;unfold maxLen;omega) (qA j.o) qs ?_;intro C c1 w1 p m A;have i:=aA (dY g.o q.o m (lR _) qs);have x:=aA p;clear p m A)
  go_returns;have o:=x.o;simp only[Nat.zero_add,List.nil_append] at o ⊢;exact⟨_,rfl,lV cV r.o i.o o,i.o⟩
theorem DA{ok:nP}(v:Value)(l:List yA)(w:World)(h:aH wI w ok v l):Calls prog 103 #[v] w (bV wI 3 189 ok l w):=by
 obtain⟨a,c,rfl,n⟩:=h.slice;unfold bV
 rcases a with _|k
 .have B:=kL eC qe h;subst B;have heq:=Lib.run_eql_slice_nil (P:=prog) w 28 189 none 0 c 0 0 underlying28;clear h;go_enter func103,ntmps103;exact BL
 .obtain⟨D,E,cs,b,h1,h2,_⟩:=h;injection b with b _ z;subst b z;have heq:=Lib.run_eql_slice_nil (P:=prog) w 28 189 (some k) l.length c 0 0 underlying28;have d:Below w.heap.size w (w.alloc (.cells #[] 189)):=(Below.refl _ _).alloc (lR _) _;have g:=aA (World.ownsRow_made (e:=189) w #[] 0 (lR _) (by simp[maxLen]) rfl:(w.alloc (.cells #[] 189)).ownsRow w.heap.size 189 3 (.slice (some ⟨w.heap.size,0,none⟩) 0 0) 0 []);have s:=aA (h2.len (fun _ _ f=>eC.len f));have t:=aA (h2.aDX (fun _ _ f=>eC.one f));obtain⟨y,r,q,j⟩:=dH (h1.lt.below d) h2 d n;clear h1 h2 d n;go_enter func103,ntmps103;go_wp2_with (at_builtin;refine fR Te rfl (.tmp 5) (.tmp 6) rfl w.heap.size (.slice (some ⟨w.heap.size,0,none⟩) 0 0) 0 [] rfl g.o (some k) l.length c cs rfl s.o (y.o.more qs) t.o (by have:=j.o;unfold maxLen;omega) (qA j.o) qs ?_;intro C c1 w1 p m A;have i:=aA (dY g.o q.o m (lR _) qs);have x:=aA p;clear p m A)
  go_returns;have o:=x.o;simp only[Nat.zero_add,List.nil_append] at o ⊢;exact⟨_,rfl,lV eC r.o i.o o,i.o⟩
theorem UE{ok:nP}(v:Value)(l:List xH)(w:World)(h:aH rD w ok v l):Calls prog 163 #[v] w (bV rD 2 177 ok l w):=by
 obtain⟨a,c,rfl,n⟩:=h.slice;unfold bV
 rcases a with _|k
 .have B:=kL dD qe h;subst B;have heq:=Lib.run_eql_slice_nil (P:=prog) w 29 177 none 0 c 0 0 underlying29;clear h;go_enter func163,ntmps163;exact BL
 .obtain⟨D,E,cs,b,h1,h2,_⟩:=h;injection b with b _ z;subst b z;have heq:=Lib.run_eql_slice_nil (P:=prog) w 29 177 (some k) l.length c 0 0 underlying29;have d:Below w.heap.size w (w.alloc (.cells #[] 177)):=(Below.refl _ _).alloc (lR _) _;have g:=aA (World.ownsRow_made (e:=177) w #[] 0 (lR _) (by simp[maxLen]) rfl:(w.alloc (.cells #[] 177)).ownsRow w.heap.size 177 2 (.slice (some ⟨w.heap.size,0,none⟩) 0 0) 0 []);have s:=aA (h2.len (fun _ _ f=>dD.len f));have t:=aA (h2.aDX (fun _ _ f=>dD.one f));obtain⟨y,r,q,j⟩:=dH (h1.lt.below d) h2 d n;clear h1 h2 d n;go_enter func163,ntmps163;go_wp2_with (at_builtin;refine fR Tf rfl (.tmp 5) (.tmp 6) rfl w.heap.size (.slice (some ⟨w.heap.size,0,none⟩) 0 0) 0 [] rfl g.o (some k) l.length c cs rfl s.o (y.o.more qs) t.o (by have:=j.o;unfold maxLen;omega) (qA j.o) qs ?_;intro C c1 w1 p m A;have i:=aA (dY g.o q.o m (lR _) qs);have x:=aA p;clear p m A)
  go_returns;have o:=x.o;simp only[Nat.zero_add,List.nil_append] at o ⊢;exact⟨_,rfl,lV dD r.o i.o o,i.o⟩
theorem GA{ok:nP}(v:Value)(l:List Ob)(w:World)(h:aH kD w ok v l):Calls prog 213 #[v] w (bV kD 3 197 ok l w):=by
 obtain⟨a,c,rfl,n⟩:=h.slice;unfold bV
 rcases a with _|k
 .have B:=kL aO qe h;subst B;have heq:=Lib.run_eql_slice_nil (P:=prog) w 34 197 none 0 c 0 0 underlying34;clear h;go_enter func213,ntmps213;exact BL
 .obtain⟨D,E,cs,b,h1,h2,_⟩:=h;injection b with b _ z;subst b z;have heq:=Lib.run_eql_slice_nil (P:=prog) w 34 197 (some k) l.length c 0 0 underlying34;have d:Below w.heap.size w (w.alloc (.cells #[] 197)):=(Below.refl _ _).alloc (lR _) _;have g:=aA (World.ownsRow_made (e:=197) w #[] 0 (lR _) (by simp[maxLen]) rfl:(w.alloc (.cells #[] 197)).ownsRow w.heap.size 197 3 (.slice (some ⟨w.heap.size,0,none⟩) 0 0) 0 []);have s:=aA (h2.len (fun _ _ f=>aO.len f));have t:=aA (h2.aDX (fun _ _ f=>aO.one f));obtain⟨y,r,q,j⟩:=dH (h1.lt.below d) h2 d n;clear h1 h2 d n;go_enter func213,ntmps213;go_wp2_with (at_builtin;refine fR aCQ rfl (.tmp 5) (.tmp 6) rfl w.heap.size (.slice (some ⟨w.heap.size,0,none⟩) 0 0) 0 [] rfl g.o (some k) l.length c cs rfl s.o (y.o.more qs) t.o (by have:=j.o;unfold maxLen;omega) (qA j.o) qs ?_;intro C c1 w1 p m A;have i:=aA (dY g.o q.o m (lR _) qs);have x:=aA p;clear p m A)
  go_returns;have o:=x.o;simp only[Nat.zero_add,List.nil_append] at o ⊢;exact⟨_,rfl,lV aO r.o i.o o,i.o⟩
theorem YC{ok:nP}(v:Value)(l:List Ma)(w:World)(h:aH rW w ok v l):Calls prog 243 #[v] w (bV rW 7 294 ok l w):=by
 obtain⟨a,c,rfl,n⟩:=h.slice;unfold bV
 rcases a with _|k
 .have B:=kL eQ qe h;subst B;have heq:=Lib.run_eql_slice_nil (P:=prog) w 319 294 none 0 c 0 0 underlying319;clear h;go_enter func243,ntmps243;exact BL
 .obtain⟨D,E,cs,b,h1,h2,_⟩:=h;injection b with b _ z;subst b z;have heq:=Lib.run_eql_slice_nil (P:=prog) w 319 294 (some k) l.length c 0 0 underlying319;have d:Below w.heap.size w (w.alloc (.cells #[] 294)):=(Below.refl _ _).alloc (lR _) _;have g:=aA (World.ownsRow_made (e:=294) w #[] 0 (lR _) (by simp[maxLen]) rfl:(w.alloc (.cells #[] 294)).ownsRow w.heap.size 294 7 (.slice (some ⟨w.heap.size,0,none⟩) 0 0) 0 []);have s:=aA (h2.len (fun _ _ f=>eQ.len f));have t:=aA (h2.aDX (fun _ _ f=>eQ.one f));obtain⟨y,r,q,j⟩:=dH (h1.lt.below d) h2 d n;clear h1 h2 d n;go_enter func243,ntmps243;go_wp2_with (at_builtin;refine fR aCR rfl (.tmp 5) (.tmp 6) rfl w.heap.size (.slice (some ⟨w.heap.size,0,none⟩) 0 0) 0 [] rfl g.o (some k) l.length c cs rfl s.o (y.o.more qs) t.o (by have:=j.o;unfold maxLen;omega) (qA j.o) qs ?_;intro C c1 w1 p m A;have i:=aA (dY g.o q.o m (lR _) qs);have x:=aA p;clear p m A)
  go_returns;have o:=x.o;simp only[Nat.zero_add,List.nil_append] at o ⊢;exact⟨_,rfl,lV eQ r.o i.o o,i.o⟩
theorem YD{ok:nP}(v:Value)(l:List No)(w:World)(h:aH JU w ok v l):Calls prog 216 #[v] w (bV JU 7 307 ok l w):=by
 obtain⟨a,c,rfl,n⟩:=h.slice;unfold bV
 rcases a with _|k
 .have B:=kL dS qe h;subst B;have heq:=Lib.run_eql_slice_nil (P:=prog) w 282 307 none 0 c 0 0 underlying282;clear h;go_enter func216,ntmps216;exact BL
 .obtain⟨D,E,cs,b,h1,h2,_⟩:=h;injection b with b _ z;subst b z;have heq:=Lib.run_eql_slice_nil (P:=prog) w 282 307 (some k) l.length c 0 0 underlying282;have d:Below w.heap.size w (w.alloc (.cells #[] 307)):=(Below.refl _ _).alloc (lR _) _;have g:=aA (World.ownsRow_made (e:=307) w #[] 0 (lR _) (by simp[maxLen]) rfl:(w.alloc (.cells #[] 307)).ownsRow w.heap.size 307 7 (.slice (some ⟨w.heap.size,0,none⟩) 0 0) 0 []);have s:=aA (h2.len (fun _ _ f=>dS.len f));have t:=aA (h2.aDX (fun _ _ f=>dS.one f));obtain⟨y,r,q,j⟩:=dH (h1.lt.below d) h2 d n;clear h1 h2 d n;go_enter func216,ntmps216;go_wp2_with (at_builtin;refine fR aCS rfl (.tmp 5) (.tmp 6) rfl w.heap.size (.slice (some ⟨w.heap.size,0,none⟩) 0 0) 0 [] rfl g.o (some k) l.length c cs rfl s.o (y.o.more qs) t.o (by have:=j.o;unfold maxLen;omega) (qA j.o) qs ?_;intro C c1 w1 p m A;have i:=aA (dY g.o q.o m (lR _) qs);have x:=aA p;clear p m A)
  go_returns;have o:=x.o;simp only[Nat.zero_add,List.nil_append] at o ⊢;exact⟨_,rfl,lV dS r.o i.o o,i.o⟩
theorem YE{ok:nP}(v:Value)(l:List Ru)(w:World)(h:aH yQ w ok v l):Calls prog 214 #[v] w (bV yQ 5 284 ok l w):=by
 obtain⟨a,c,rfl,n⟩:=h.slice;unfold bV
 rcases a with _|k
 .have B:=kL bM qe h;subst B;have heq:=Lib.run_eql_slice_nil (P:=prog) w 32 284 none 0 c 0 0 underlying32;clear h;go_enter func214,ntmps214;exact BL
 .obtain⟨D,E,cs,b,h1,h2,_⟩:=h;injection b with b _ z;subst b z;have heq:=Lib.run_eql_slice_nil (P:=prog) w 32 284 (some k) l.length c 0 0 underlying32;have d:Below w.heap.size w (w.alloc (.cells #[] 284)):=(Below.refl _ _).alloc (lR _) _;have g:=aA (World.ownsRow_made (e:=284) w #[] 0 (lR _) (by simp[maxLen]) rfl:(w.alloc (.cells #[] 284)).ownsRow w.heap.size 284 5 (.slice (some ⟨w.heap.size,0,none⟩) 0 0) 0 []);have s:=aA (h2.len (fun _ _ f=>bM.len f));have t:=aA (h2.aDX (fun _ _ f=>bM.one f));obtain⟨y,r,q,j⟩:=dH (h1.lt.below d) h2 d n;clear h1 h2 d n;go_enter func214,ntmps214;go_wp2_with (at_builtin;refine fR aCT rfl (.tmp 5) (.tmp 6) rfl w.heap.size (.slice (some ⟨w.heap.size,0,none⟩) 0 0) 0 [] rfl g.o (some k) l.length c cs rfl s.o (y.o.more qs) t.o (by have:=j.o;unfold maxLen;omega) (qA j.o) qs ?_;intro C c1 w1 p m A;have i:=aA (dY g.o q.o m (lR _) qs);have x:=aA p;clear p m A)
  go_returns;have o:=x.o;simp only[Nat.zero_add,List.nil_append] at o ⊢;exact⟨_,rfl,lV bM r.o i.o o,i.o⟩
theorem YF{n:Nat}{ok:nP}(v:Value)(l:List Po)(w:World)(h:aH (qM n) w ok v l):Calls prog 215 #[v] w (bV (qM n) 7 36 ok l w):=by
 obtain⟨a,c,rfl,o⟩:=h.slice;unfold bV
 rcases a with _|k
 .have C:=kL (bB n) qe h;subst C;have heq:=Lib.run_eql_slice_nil (P:=prog) w 33 36 none 0 c 0 0 underlying33;clear h;go_enter func215,ntmps215;exact BL
 .obtain⟨E,F,cs,b,h1,h2,_⟩:=h;injection b with b _ A;subst b A;have heq:=Lib.run_eql_slice_nil (P:=prog) w 33 36 (some k) l.length c 0 0 underlying33;have d:Below w.heap.size w (w.alloc (.cells #[] 36)):=(Below.refl _ _).alloc (lR _) _;have g:=aA (World.ownsRow_made (e:=36) w #[] 0 (lR _) (by simp[maxLen]) rfl:(w.alloc (.cells #[] 36)).ownsRow w.heap.size 36 7 (.slice (some ⟨w.heap.size,0,none⟩) 0 0) 0 []);have t:=aA (h2.len (fun _ _ f=>(bB n).len f));have x:=aA (h2.aDX (fun _ _ f=>(bB n).one f));obtain⟨z,s,r,j⟩:=dH (h1.lt.below d) h2 d o;clear h1 h2 d o;go_enter func215,ntmps215;go_wp2_with (at_builtin;refine fR aCU rfl (.tmp 5) (.tmp 6) rfl w.heap.size (.slice (some ⟨w.heap.size,0,none⟩) 0 0) 0 [] rfl g.o (some k) l.length c cs rfl t.o (z.o.more qs) x.o (by have:=j.o;unfold maxLen;omega) (qA j.o) qs ?_;intro D c1 w1 q m B;have i:=aA (dY g.o r.o m (lR _) qs);have y:=aA q;clear q m B)
  go_returns;have p:=y.o;simp only[Nat.zero_add,List.nil_append] at p ⊢;exact⟨_,rfl,lV (bB n) s.o i.o p,i.o⟩
end Go.Proofs.YtjlkljmickcacaaGreatDoor
