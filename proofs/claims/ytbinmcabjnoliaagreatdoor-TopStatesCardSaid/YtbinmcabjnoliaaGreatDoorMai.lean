/- Lemmas. -/
import Derived.Test.YtbinmcabjnoliaaGreatDoorMah
namespace Go.Proofs.YtbinmcabjnoliaaGreatDoor
open Go.RowKit
set_option linter.unusedVariables false
set_option linter.unusedSimpArgs false
set_option maxHeartbeats 16000000
open _root_.Go.Proofs.Tryz
set_option maxRecDepth 20000
section
open Pv
abbrev oV(Q:Nat)(a:oD)(m b:Nat)(sy:Int):Obj:= .cells #[.int .i64 (Q:Int),.slice a m b,.int .i64 sy,.int .i64 0,.bool false] 85
theorem Ha(D Q m b:Nat)(a:oD)(sy:Int)(w:World)(c:Q<=2000000)(hm:m<=Q)(h:w.heap[D]? =some (oV Q a m b sy)):Calls prog 130 #[.pointer (some ⟨D,0,none⟩)] w (aO (.int .i64 ((Q:Int) - (m:Int))) w):=by
 obtain⟨⟨d0,d1,d2,d3,d4⟩,_⟩:=cP h;have e:=aD h;have d:IntKind.i64.wrap ((Q:Int) - (m:Int))=(Q:Int) - (m:Int):=IntWalk.i64_in _ qo;go_enter func130,ntmps130;go_upto_region 1 with (fail)
 go_quiet (fail)
 go_wp2;go_ret;exact⟨rfl,fJ (Below.refl _ _) ⟨_,rfl⟩⟩
theorem OI(D Q m b:Nat)(a:oD)(sy:Int)(w:World)(h:w.heap[D]? =some (oV Q a m b sy)):Calls prog 80 #[.pointer (some ⟨D,0,none⟩)] w (fun e w'=>e=.returned (.bool false)/\w'=w):=by
 obtain⟨⟨d0,d1,d2,d3,d4⟩,_⟩:=cP h;have c:=aD h;go_enter func80,ntmps80;go_wp2;go_ret;exact⟨rfl,rfl⟩
theorem OJ(D Q m c:Nat)(a:oD)(sy:Int)(w:World)(h:w.heap[D]? =some (oV Q a m c sy)):Calls prog 46 #[.pointer (some ⟨D,0,none⟩)] w (fun e w'=>e=.returned (.int .i64 0)/\w'.heap[D]? =some (oV Q a m c (m:Int))/\aN (fun b=>b≠D) w w'):=by
 have d:=aA (OI D Q m c a sy w h);have H:=aA h;obtain⟨⟨d0,d1,d2,d3,d4⟩,f0,f1,f2,f3,f4⟩:=cP h;have f:=aD h;clear h;go_enter func46,ntmps46;go_upto_region 3 with (go_at_call 80;refine d.o.mono ?_;rintro e w1 ⟨rfl,rfl⟩)
 go_wp2;go_ret;exact⟨rfl,aG H.o 2 _,aI _⟩
theorem ZP{w:World}{B:Nat}{a:oD}{n c:Nat}{l:lU}(h:w.ownsRow B 5 1 (.slice a n c) l.length (bF l)):gY w (fun b=>B<=b/\b<w.heap.size) a (bF l):=by
 obtain⟨k,m,e,_,h3,h4⟩:=lM h;injection e with f o p;subst f;intro j;obtain⟨b,off,d,i,g⟩:=h3 j;exact⟨b,off,d,⟨h4 _ d,i⟩,g⟩
theorem XH(D Q k:Nat)(g:oD)(sy:Int)(bs:lU)(a:oD)(c:Nat)(p:lU)(w:World)(C:Q<=1000000)(h:w.heap[D]? =some (oV Q g bs.length k sy))(d:Sl w w.heap.size g (bF bs))(hp:Sl w w.heap.size a (bF p))(h0:0<p.length)(G:bs.length+p.length<=Q):
 Calls prog 77 #[.pointer (some ⟨D,0,none⟩),.slice a p.length c] w (fun e w'=>e=.returned (.int .i64 0)/\(∃(l:lU) (A:oD) (i:Nat),l.length=bs.length+p.length/\w'.heap[D]? =some (oV Q A l.length i sy)/\gY w' (fun b=>w.heap.size<=b/\b<w'.heap.size) A (bF l))/\aN (fun b=>b≠D) w w'):=by
 obtain⟨z,H,B,n⟩:=dG (Ha D Q bs.length k g sy w qo qo h) h (And.intro d hp) (And.intro G (And.intro h0 C));unfold aO at z;have W:¬((Q:Int) - (bs.length:Int)<(p.length:Int)):=qo;obtain⟨⟨d0,d1,d2,d3,d4⟩,_⟩:=cP h;have q:=aD h;clear h d hp G h0 C;go_enter func77,ntmps77;go_wp2_with fail;refine z.o.mono ?_;rintro e w1 ⟨rfl,t⟩;obtain⟨s,o⟩:=xE (w1.alloc (.cells #[.slice g bs.length k,.slice a p.length c] 83));have E:Below w1.heap.size w1 s:=by rw[o];exact aB _ _
 have I:s.heap[w1.heap.size]? =some (.cells #[.slice g bs.length k,.slice a p.length c] 83 (0,0)):=by rw[o];exact aK _ _ _ rfl
 have j:=aA (aC t E);obtain⟨y,H1,T⟩:=aY (JZ _ [bs,p] s (TG (cs:=[.slice g bs.length k,.slice a p.length c]) (c:=2) I ⟨[_],_,rfl,CR (B.o.1.on j.o) (qA n.o),⟨[_],[],rfl,CR (B.o.2.on j.o) (qA n.o),rfl⟩⟩ (by show 2<=1000;omega)) (bs.length+p.length) (by simp only[tX,List.length_cons,List.length_nil,List.take_succ_cons,List.take_zero,List.map_cons,List.map_nil,List.sum_cons,List.sum_nil];omega) (qA n.o) (qA n.o)) (aE H.o t) o;clear o E I d0 d1 d2 d3 d4 q t;obtain⟨⟨d0,d1,d2,d3,d4⟩,_⟩:=cP H1.o;have q:=aD H1.o;go_wp2_with fail;rw[<-T.o];refine y.o.mono ?_;rintro e M ⟨l,A,i,rfl,J,_,K,F⟩;obtain⟨O,P,x⟩:=aY J (ZP K) (aC j.o F);have r:=qK H x.o;clear J K F d0 d1 d2 d3 d4 q y;obtain⟨⟨d0,d1,d2,d3,d4⟩,f0,f1,f2,f3,f4⟩:=cP r.o;have q:=aD r.o;obtain⟨f,m⟩:=xE (M.setCell ⟨D,1,none⟩ (.slice A l.length i));have v:Hid (f.heap[D]? =some (oV Q A l.length i sy)):=aA (by rw[m];exact aG r.o 1 _);have R:Hid (aN (fun b=>b≠D) w f):=aA (by rw[m];exact(aJ x.o).trans (aI _));have S:Hid (gY f (fun b=>w.heap.size<=b/\b<f.heap.size) A (bF l)):=aA (by
  have L:aN (fun b=>b≠D) M f:=by rw[m];exact aI _
  have V:=aD H.o;exact(P.o.aC0 (L.mono fun b _ d e=>qD d.1 j.o.size)).more fun b d=>⟨lT j.o.size d.1,lL d.2 L.size⟩)
 have N:=aA (OI D Q l.length i A sy f v.o);have U:=aA m;clear m;go_wp2_with fail;rw[<-U.o];refine N.o.mono ?_;rintro e X ⟨rfl,rfl⟩;go_wp2;go_ret;exact⟨rfl,⟨l,A,i,O.o,v.o,S.o⟩,R.o⟩
end
section
variable {P:Program} {w:World}
theorem CT(g:Nat)(cs:Array Value):aN (fun b=>b≠g) w (w.setRow g cs):=⟨rfl,rfl,rfl,by simp[World.setRow],fun k _ a=>setRow_other w g k cs a⟩
theorem Hb{o:Oper}{a:Act}{K:Act->World->Prop}{Q:Exit->Act->World->Prop}(ty:TypeId)(x y:Operand)(f:o.op=.store ty x y)(g:Nat)(cells:Array Value)(i:a.eval x=.pointer (some ⟨g,0,none⟩))(j:a.eval y=.agg cells)(t:TypeId)(c:Array Value)(d:w.heap[g]? =some (.cells c t (0,0)))(e:(P.info? ty).map (·.size)=some cells.size)(hold:c.size=cells.size)(h1:cells.all (·.oneCell')=true)
 (h:∀w',Hid (w'.heap[g]? =some (.cells cells t (0,0)))->Hid (aN (fun b=>b≠g) w w')->K (a.put o.dst undef) w'):o.wp P a w K Q:=
 wp_store_row ty x y f g cells i j t c d e hold h1 (h _ (setRow_heap w g c cells t (0,0) d) (CT g cells))
theorem eI{ops:Array Oper}{rest:List Oper}{o:Oper}{a:Act}{Q:Exit->Act->World->Prop}(f:o.guard=none)(ty:TypeId)(x y:Operand)(j:o.op=.store ty x y)(g:Nat)(cells:Array Value)(k:a.eval x=.pointer (some ⟨g,0,none⟩))(l:a.eval y=.agg cells)(t:TypeId)(c:Array Value)(e:w.heap[g]? =some (.cells c t (0,0)))(i:(P.info? ty).map (·.size)=some cells.size)(hold:c.size=cells.size)(h1:cells.all (·.oneCell')=true)
 (h:∀w',Hid (w'.heap[g]? =some (.cells cells t (0,0)))->Hid (aN (fun b=>b≠g) w w')->wpList P ops Q rest (a.put o.dst undef) w'):wpList P ops Q (o::rest) a w:=
 wpList_plain f fun _ d=>Hb ty x y j g cells k l t c e i hold h1 fun w' h2 h3=>d _ _ (h w' h2 h3)
theorem kX{ops:Array Oper}{o:Oper}{a:Act}{K:Act->World->Prop}{Q:Exit->Act->World->Prop}{E:Prop}(e:o.guard=none)(ty:TypeId)(x y:Operand)(i:o.op=.store ty x y)(g:Nat)(cells:Array Value)(j:a.eval x=.pointer (some ⟨g,0,none⟩))(k:a.eval y=.agg cells)(t:TypeId)(c:Array Value)(d:w.heap[g]? =some (.cells c t (0,0)))(f:(P.info? ty).map (·.size)=some cells.size)(hold:c.size=cells.size)(h1:cells.all (·.oneCell')=true)
 (h:∀w',Hid (w'.heap[g]? =some (.cells cells t (0,0)))->Hid (aN (fun b=>b≠g) w w')->K (a.put o.dst undef) w'):if Region.wanted o (yielded ops a.tmps)=true then Oper.wp P o a w K Q else E:=by
 rw[iP (by simp[Region.wanted,e])];exact Hb ty x y i g cells j k t c d f hold h1 h
end
theorem sW{s:bY}(h:s.size<=cQ):s.size<=maxLen:=by unfold cQ at h;unfold maxLen;omega
theorem Bx(k:Int)(w:World):Calls prog 146 #[.int .i64 k] w (aO (.bool (decide (k=3\/k=5))) w):=by
 unfold aO;go_enter func146,ntmps146;go_wp2
 all_goals go_returns
 all_goals exact⟨bI (by rw[Bool.eq_iff_iff];simp[*]<;>(intros;omega)),Below.refl _ _⟩
theorem vX:∀(x y:lU),Op.bytesLess x y=decide (x<y)
 | [],[]=>by simp[Op.bytesLess]
 | [],b::y=>by simp[Op.bytesLess]
 |a::x,[]=>by simp[Op.bytesLess]
 |a::x,b::y=>by
  rw[Op.bytesLess,vX x y,Bool.eq_iff_iff,decide_eq_true_iff,List.cons_lt_cons_iff];simp only[Bool.or_eq_true,Bool.and_eq_true,decide_eq_true_eq,bQ]
def sX(a b:V3)(w:World)(e:Ending)(w':World):Prop:=e=.returned (.tuple #[.bool (jT a b).1,.int .i64 (jT a b).2])/\Below w.heap.size w w'
theorem CU(a b:V3)(ha:cS a)(J:cS b)(w:World):Calls prog 262 #[dD a,dD b] w (sX a b w):=by
 obtain⟨d,f,j⟩:=a;obtain⟨g,i,k⟩:=b;have l:=aA (fun w=>nH d f j (sW ha.2.2) w);have m:=aA (fun w=>nH g i k (sW J.2.2) w);unfold lD at l m;unfold dD;simp only;have G:=aA (aC (aB w (.cells #[.int .i64 d,.int .i64 f,.string j] 55)) (aB _ (.cells #[.int .i64 g,.int .i64 i,.string k] 55)));obtain⟨ra,y⟩:∃r,aT (d,f,j)=r:=⟨_,rfl⟩;obtain⟨L,z⟩:∃r,aT (g,i,k)=r:=⟨_,rfl⟩;rw[y] at l;rw[z] at m;have H:=aA y;have I:=aA z;clear ha J y z;have A:=aA (aE (aK w (.cells #[.int .i64 d,.int .i64 f,.string j] 55) _ rfl) (aB (w.alloc (.cells #[.int .i64 d,.int .i64 f,.string j] 55)) (.cells #[.int .i64 g,.int .i64 i,.string k] 55)));have B:Hid (((w.alloc (.cells #[.int .i64 d,.int .i64 f,.string j] 55)).alloc (.cells #[.int .i64 g,.int .i64 i,.string k] 55)).heap[w.heap.size+1]? =some (.cells #[.int .i64 g,.int .i64 i,.string k] 55 (0,0))):=aA (aK (w.alloc (.cells #[.int .i64 d,.int .i64 f,.string j] 55)) (.cells #[.int .i64 g,.int .i64 i,.string k] 55) _ qs)
 cases ra
 .go_enter func262,ntmps262;go_wp2_with fail;refine(l.o _).mono ?_;rintro e w1 ⟨rfl,c⟩;have v:=qB G c;clear c l;go_wp2;go_returns;unfold sX jT;rw[iP (.inl H.o)];exact⟨rfl,v.o⟩
 .go_enter func262,ntmps262;go_wp2_with fail;refine(l.o _).mono ?_;rintro e w1 ⟨rfl,c⟩;have v:=qB G c
  try clear n o p C
  replace A:=qK A c;obtain⟨⟨n,o,p⟩,_⟩:=cE A.o;have C:=aD A.o
  try clear q s t D
  replace B:=qK B c;obtain⟨⟨q,s,t⟩,_⟩:=cE B.o;have D:=aD B.o;clear c l;go_wp2_with fail;refine(m.o _).mono ?_;rintro e w2 ⟨rfl,c⟩;have x:=qB v c
  try clear n o p C
  replace A:=qK A c;obtain⟨⟨n,o,p⟩,_⟩:=cE A.o;have C:=aD A.o
  try clear q s t D
  replace B:=qK B c;obtain⟨⟨q,s,t⟩,_⟩:=cE B.o;have D:=aD B.o;clear c m
  cases L
  .go_wp2;go_returns;unfold sX jT;rw[iP (.inr I.o)];exact⟨rfl,x.o⟩
  .go_wp2_with (go_at_call 146;refine(Bx _ _).mono ?_;rintro e N ⟨rfl,c⟩;have K:=qB x c;have E:=qK A c;have F:=qK B c;clear c;obtain⟨⟨a0,M,a2⟩,_⟩:=cE E.o;obtain⟨⟨b0,b1,b2⟩,_⟩:=cE F.o;have O:=aD E.o;have P:=aD F.o)
   all_goals go_returns
   all_goals
    unfold sX jT;rw[iN (fun h=>h.elim (fun h=>by rw[H.o] at h;cases h) (fun h=>by rw[I.o] at h;cases h))];refine⟨?_,?_⟩
    .simp_all [vX]
    .first|exact K.o|exact x.o
theorem BJ{p:Prop}(h:p:=by
 go_wp2;go_returns;exact⟨_,rfl,aM.nil,Below.refl _ _⟩):p:=h
theorem KA{p:Prop}(h:p:=by
 have hk1:¬(k:Int)<(l.length:Int):=qo;obtain rfl:k=l.length:=qo;have HF:=aA (OK HR.o);clear HR;go_wp2;go_returns;exact⟨by rw[HF.o];rfl,HB.o⟩):p:=h
theorem KC{p:Prop}(h:p:=by
 unfold aO at HI;have HL:Hid (∀g,PR l[k]=g->((if g=true then eU PR l=(k:Int) else ∀i (hi:i<l.length),i<k+1->PR l[i]=false):Prop)):=aA (fun g hg=>by
  cases g
  .rw[iN qe];intro i hi h
   rcases Nat.lt_or_ge i k with h1|h1
   .exact HR.o i hi h1
   .obtain rfl:i=k:=qo;exact hg
  .rw[iP rfl];exact IU hlt HR.o hg)
 clear HR hcl;generalize hx:l[k]=x at *;generalize PR x=g at *;clear hx;go_wp2_with fail;refine HI.o.mono ?_;rintro e w' ⟨rfl,hb'⟩;have HB':=qB HB hb';clear HI hb'
 cases g
 .have HF:=aA (HL.o false rfl);clear HL;go_wp2;go_roundw
  case rel=>exact⟨k+1,qo,by go_num,aA (by have:=HF.o;rwa [iN qe] at this),HB'⟩
  case measure=>simp[intOf];omega
 .have HF:=aA (HL.o true rfl);clear HL;go_wp2;go_returns;exact⟨by have:=HF.o;rw[iP trivial] at this;rw[this];rfl,HB'.o⟩):p:=h
theorem Xr:dV prog 172 55 3 32:=fQ (z:= .agg #[.int .i64 0,.int .i64 0,.string ByteArray.empty]) underlying172 (by kernel_rfl) rfl qe
theorem IT:dV prog 128 177 3 48:=fQ (z:= .agg #[.int .i64 0,.string ByteArray.empty,.slice none 0 0]) underlying128 (by kernel_rfl) rfl qe
theorem lJ{α:Type}{R:Rep α}{s:Nat}(F:Firm R s){e:TypeId}{w w':World}{ok:nP}{cs:List Value}{l:List α}{v:Value}(h:aX (R w ok) cs l)(c:Below w.heap.size w w')(d:w'.ownsRow w.heap.size e s v l.length cs):aM R s e w' w.heap.size ok v l:=by
 refine⟨cs,d,h.mono fun r x f=> ?_⟩;refine F.more (F.aC0 (F.inb f) (aJ c)) fun b a=>⟨a.1,lL a.2 c.size,fun e=> ?_⟩
 have:=(d.lt b e.symm).1;have:=a.2;omega
theorem kC{α:Type}{R:Rep α}{s:Nat}(F:Firm R s)(i:0<s){w:World}{ok:nP}{n c:Nat}{l:List α}(h:aH R w ok (.slice none n c) l):l=[]:=by
 obtain⟨a,j,cs,e,h1,h2,_⟩:=h;injection e with f k m;subst f;by_cases d:cs=[]
 .subst d;exact h2.aDU (fun _ _ g=>F.len g) i
 .obtain⟨b,off,e,_⟩:=h1 d;cases e
theorem eJ{α:Type}{enc:α->List Value}{good:α->Prop}{s:Nat}{e:TypeId}{w:World}{base:Nat}{ok ok':nP}{v:Value}{l:List α}(h:aM (mJ enc good) s e w base ok v l):aM (mJ enc good) s e w base ok' v l:=by
 obtain⟨cs,h1,h2⟩:=h;exact⟨cs,h1,h2.mono fun r x a=>a⟩
def bW{α:Type}(R:Rep α)(s:Nat)(e:TypeId)(ok:nP)(l:List α)(w:World)(a:Ending)(w':World):Prop:=
 ∃v,a=.returned v/\aM R s e w' w.heap.size ok v l/\Below w.heap.size w w'
theorem By{ok:nP}(v:Value)(l:List V3)(w:World)(h:aH VR w ok v l):Calls prog 261 #[v] w (bW VR 3 55 ok l w):=by
 obtain⟨a,c,rfl,n⟩:=h.slice;unfold bW
 rcases a with _|k
 .have B:=kC bH qe h;subst B;have heq:=Lib.run_eql_slice_nil (P:=prog) w 172 55 none 0 c 0 0 underlying172;clear h;go_enter func261,ntmps261;exact BJ
 .obtain⟨D,E,cs,b,h1,h2,_⟩:=h;injection b with b _ z;subst b z;have heq:=Lib.run_eql_slice_nil (P:=prog) w 172 55 (some k) l.length c 0 0 underlying172;have d:Below w.heap.size w (w.alloc (.cells #[] 55)):=(Below.refl _ _).alloc (lR _) _;have g:=aA (World.ownsRow_made (e:=55) w #[] 0 (lR _) (by simp[maxLen]) rfl:(w.alloc (.cells #[] 55)).ownsRow w.heap.size 55 3 (.slice (some ⟨w.heap.size,0,none⟩) 0 0) 0 []);have s:=aA (h2.len (fun _ _ f=>bH.len f));have t:=aA (h2.aDp (fun _ _ f=>bH.one f));obtain⟨y,r,q,j⟩:=dG (h1.lt.below d) h2 d n;clear h1 h2 d n;go_enter func261,ntmps261;go_wp2_with (at_builtin;refine fR Xr rfl (.tmp 5) (.tmp 6) rfl w.heap.size (.slice (some ⟨w.heap.size,0,none⟩) 0 0) 0 [] rfl g.o (some k) l.length c cs rfl s.o (y.o.more qs) t.o (by have:=j.o;unfold maxLen;omega) (qA j.o) qs ?_;intro C c1 w1 p m A;have i:=aA (dU g.o q.o m (lR _) qs);have x:=aA p;clear p m A)
  go_returns;have o:=x.o;simp only[Nat.zero_add,List.nil_append] at o ⊢;exact⟨_,rfl,lJ bH r.o i.o o,i.o⟩
def eU{α:Type}(p:α->Bool)(l:List α):Int:=if l.findIdx p<l.length then (l.findIdx p:Int) else -1
theorem IU{α:Type}{p:α->Bool}{l:List α}{k:Nat}(a:k<l.length)(b:∀i (c:i<l.length),i<k->p l[i]=false)(h:p l[k]=true):eU p l=(k:Int):=by
 have e:l.findIdx p=k:=(List.findIdx_eq a).2 ⟨h,fun j hj=>b j qo hj⟩;unfold eU;rw[e,iP a]
theorem OK{α:Type}{p:α->Bool}{l:List α}(b:∀i (a:i<l.length),i<l.length->p l[i]=false):eU p l= -1:=by
 have e:l.findIdx p=l.length:=by
  rw[List.findIdx_eq_length];intro x c;obtain⟨i,a,rfl⟩:=List.getElem_of_mem c;exact b i a a
 unfold eU;rw[e,iN qo]
theorem sY{α:Type}(p:α->Bool)(l:List α):decide (0<=eU p l)=l.any p:=by
 unfold eU;rw[Bool.eq_iff_iff,decide_eq_true_iff,List.any_eq_true];by_cases h:l.findIdx p<l.length
 .rw[iP h];exact⟨fun _=>⟨_,List.getElem_mem h,List.findIdx_getElem (w:=h)⟩,fun _=>by omega⟩
 .rw[iN h];exact⟨fun h=>by omega,fun⟨x,a,hp⟩=>absurd (List.findIdx_lt_length_of_exists ⟨x,a,hp⟩) h⟩
def jA(w:World)(p i:Nat)(v:Value):Prop:=w.cell? ⟨p,i,none⟩=some v/\p<w.heap.size
theorem jA.on{w w':World}{p i:Nat}{v:Value}(h:jA w p i v)(a:Below w.heap.size w w'):jA w' p i v:=⟨(a.cell (p:=⟨p,i,none⟩) h.2).trans h.1,lL h.2 a.size⟩
theorem Bz(x:Gv)(b:oD)(c:Nat)(C:Int)(N:bY)(p q:Nat)(w:World)(hp:jA w p 0 (.int .i64 C))(a:jA w q 0 (.string N)):
 Calls prog 281 #[.agg #[.int .i64 x.1,.string x.2.1,.slice b x.2.2.length c],.pointer (some ⟨p,0,none⟩),.pointer (some ⟨q,0,none⟩)] w (aO (.bool (mK C N x)) w):=by
 unfold aO;have h1:p≠w.heap.size:=qA hp.2;have h2:q≠w.heap.size:=qA a.2;obtain⟨hp,d⟩:=hp;obtain⟨a,e⟩:=a;go_enter func281,ntmps281;go_wp2
 .rename_i h;go_returns;refine⟨?_,aB _ _⟩;show Ending.returned (.bool (x.2.1.toList==N.toList))=_;rw[iG];unfold mK;rw[dX h];rfl
 .rename_i h;go_returns;refine⟨?_,aB _ _⟩;show Ending.returned (.bool false)=_;unfold mK;rw[dF h];rfl
theorem Hc{ok:nP}(v:Value)(l:List Gv)(C:Int)(N:bY)(p q:Nat)(w:World)(h:aH jM w ok v l)(d:jA w p 0 (.int .i64 C)/\jA w q 0 (.string N)):Calls prog 280 #[v,.func (.func 281) #[] #[.pointer (some ⟨p,0,none⟩),.pointer (some ⟨q,0,none⟩)]] w (aO (.int .i64 (eU (mK C N) l)) w):=by
 obtain⟨a,c,rfl,D⟩:=h.slice;have t:=aA h;have j:=aA (fun wr (o:Below w.heap.size w wr)=>(⟨d.1.on o,d.2.on o⟩:jA wr p 0 (.int .i64 C)/\jA wr q 0 (.string N)));clear h d;obtain⟨PR,f⟩:∃PR:Gv->Bool,PR=(mK C N):=⟨_,rfl⟩;have s:=aA f;rw[<-f];clear f;unfold aO;go_enter func280,ntmps280;go_wp2;go_loopw [5,8] (fun _ i wr=>∃k:Nat,k<=l.length/\i=.int .i64 k/\Hid (∀i (hi:i<l.length),i<k->PR l[i]=false)/\Hid (Below w.heap.size w wr)) (fun _ i _=>l.length - (intOf i).toNat)
 case atStart=>exact BI
 case round=>
  obtain⟨k,B,rfl,HR,HB⟩:=hrel;by_cases hlt:k<l.length
  .have hk1:(k:Int)<(l.length:Int):=qo;obtain⟨b,off,r,rfl,_,A,⟨vb,rfl,y⟩,hcl⟩:=aH.at bZ (t.o.on bZ HB.o) hlt qe;obtain⟨m,n,rfl,_⟩:=y.2.2.slice;obtain⟨z,E,F⟩:=cR3 hcl;rw[Nat.add_zero] at z;have HI:Hid (Calls prog 281 #[.agg #[.int .i64 l[k].1,.string l[k].2.1,.slice m l[k].2.2.length n],.pointer (some ⟨p,0,none⟩),.pointer (some ⟨q,0,none⟩)] wr (aO (.bool (PR l[k])) wr)):=by rw[s.o];exact aA (Bz l[k] m n C N p q wr (j.o wr HB.o).1 (j.o wr HB.o).2)
   exact KC
  .exact KA
theorem Ca(l:List Gv)(C:Int)(N:bY):mM l C N=eU (mK C N) l:=rfl
theorem Cb{ok:nP}(v:Value)(l:List Gv)(C:Int)(N:bY)(w:World)(h:aH jM w ok v l):
 Calls prog 260 #[v,.int .i64 C,.string N] w (aO (.int .i64 (mM l C N)) w):=by
 obtain⟨h1,h2,h3,h4,h5⟩:=Fy w (.int .i64 C) (.string N) 3 9;have d:=aA (Hc v l C N w.heap.size (w.heap.size+1) _ (h.on bZ h5) ⟨⟨h1,h3⟩,⟨h2,h4⟩⟩);have b:=aA h5;obtain⟨a,c,rfl,i⟩:=h.slice;clear h1 h2 h3 h4 h5 h;rw[Ca];unfold aO at *;generalize eU (mK C N) l=pl at *;go_enter func260,ntmps260;go_wp2_with fail;refine d.o.mono ?_;rintro e w' ⟨rfl,f⟩;have g:=qB b f;clear d f b;go_wp2;go_returns;exact⟨rfl,g.o⟩
def sZ(l:List Gv)(a:At)(w:World)(e:Ending)(w':World):Prop:=
 ∃v,e=.returned (.tuple #[v,.int .i64 (rJ l a).2])/\aH VR w' (fun b=>w.heap.size<=b) v (rJ l a).1/\Below w.heap.size w w'
theorem Hd(l:List Gv)(C:Int)(N:bY):(mM l C N= -1/\zE l C N=[])\/∃(k:Nat) (h:k<l.length),mM l C N=(k:Int)/\zE l C N=l[k].2.2:=by
 by_cases h:mL l C N<l.length
 .refine .inr ⟨mL l C N,h,?_,Wv h⟩;unfold mM;rw[iP h]
 .refine .inl ⟨?_,Mt h⟩;unfold mM;rw[iN h]
theorem TI{ok:nP}(v:Value)(l:List Gv)(at_:At)(w:World)(h:aH jM w ok v l):Calls prog 234 #[v,oF at_] w (sZ l at_ w):=by
 obtain⟨cat,name,must⟩:=at_;have E:=aB w (.cells #[.int .i64 cat,.string name,.bool must] 279);obtain⟨y,j,R,d,L⟩:=gC (Cb v l cat name _ (h.on bZ E)) (Hd l cat name) h (aK w (.cells #[.int .i64 cat,.string name,.bool must] 279) _ rfl) E;obtain⟨a,c,rfl,ad⟩:=h.slice;obtain⟨B,m⟩:∃B,zE l cat name=B:=⟨_,rfl⟩;have J:Hid (∀v w',(B=[]/\must=true)->aH VR w' (fun b=>w.heap.size<=b) v []->Below w.heap.size w w'->sZ l ⟨cat,name,must⟩ w (.returned (.tuple #[v,.int .i64 4])) w'):=aA (fun v w' h1 h2 h3=>by
  unfold sZ rJ;simp only[m];rw[iP h1];exact⟨v,rfl,h2,h3⟩)
 have z:Hid (∀v w',¬(B=[]/\must=true)->aH VR w' (fun b=>w.heap.size<=b) v B->Below w.heap.size w w'->sZ l ⟨cat,name,must⟩ w (.returned (.tuple #[v,.int .i64 0])) w'):=aA (fun v w' h1 h2 h3=>by
  unfold sZ rJ;simp only[m];rw[iN h1];exact⟨v,rfl,h2,h3⟩)
 rw[m] at j;unfold oF;unfold aO at y;clear E h m;generalize mM l cat name=pl at *;go_enter func234,ntmps234;go_wp2_with fail;refine y.o.mono ?_;rintro e w1 ⟨rfl,F⟩;have f:=qB L F
 try clear p q s I
 replace d:=qK d F;obtain⟨⟨p,q,s⟩,_⟩:=cE d.o;have I:=aD d.o;clear y F L
 rcases j.o with ⟨C,i⟩|⟨k,S,C,i⟩
 .subst C;have g:=aA i;clear j i
  cases must
  .go_wp2;go_returns;exact z.o _ _ qs (by rw[g.o];exact aH.nil) f.o
  .go_wp2;go_returns;exact J.o _ _ ⟨g.o,(by trivial)⟩ aH.nil f.o
 .subst C;obtain⟨b,off,r,rfl,_,Z,⟨vb,rfl,N⟩,M⟩:=aH.at bZ (R.o.on bZ f.o) S qe;have n:=N.2.2;rw[<-i] at n;obtain⟨W,X,rfl,O⟩:=n.slice;obtain⟨P,U,V⟩:=cR3 M;rw[Nat.add_zero] at P;have ab:(k:Int)<(l.length:Int):=qo;have aa:decide ((k:Int) ≥ 0)=true:=dX qo;have x:=aA (By _ _ w1 n);unfold bW at x;have Q:=aA O;clear j N M i n O;go_wp2_with fail;refine x.o.mono ?_;rintro e w2 ⟨v,rfl,H,G⟩;obtain⟨A,Y,rfl⟩:=H.slice;have K:=aA ((eJ (enc:=IJ) (good:=cS) (ok':=fun b=>w.heap.size<=b) H).sl Q.o (fun b=>w.heap.size<=b) (fun b D _=>D) (fun b D _=>lT f.o.size D) bH);have t:=qB f G
  try clear p q s I
  replace d:=qK d G;obtain⟨⟨p,q,s⟩,_⟩:=cE d.o;have I:=aD d.o;clear x G H P U V f;by_cases o:B.length=0
  .have T:((B.length:Int)==0)=true:=bQ.2 qo;have g:=aA (List.eq_nil_of_length_eq_zero o);clear o
   cases must
   .go_wp2;go_returns;exact z.o _ _ qs K.o t.o
   .go_wp2;go_returns;exact J.o _ _ ⟨g.o,(by trivial)⟩ aH.nil t.o
  .have T:((B.length:Int)==0)=false:=bN.2 qo;have g:Hid (¬(B=[]/\must=true)):=aA (fun h=>o (by rw[h.1];rfl));clear o;go_wp2;go_returns;exact z.o _ _ g.o K.o t.o
theorem Cc:dV prog 44 52 3 40:=fQ (z:= .agg #[.int .i64 0,.string ByteArray.empty,.string ByteArray.empty]) underlying44 (by kernel_rfl) rfl qe
theorem wX:dV prog 43 57 4 48:=fQ (z:= .agg #[.string ByteArray.empty,.int .i64 0,.int .i64 0,.string ByteArray.empty]) underlying43 (by kernel_rfl) rfl qe
theorem zS:dV prog 28 46 5 96:=fQ (z:= .agg #[.string ByteArray.empty,.string ByteArray.empty,.string ByteArray.empty,.slice none 0 0,.slice none 0 0]) underlying28 (by kernel_rfl) rfl qe
theorem Rx:dV prog 29 183 7 88:=fQ (z:= .agg #[.int .i64 0,.int .i64 0,.string ByteArray.empty,.string ByteArray.empty,.string ByteArray.empty,.string ByteArray.empty,.bool false]) underlying29 (by kernel_rfl) rfl qe
theorem Ry:dV prog 30 186 3 40:=fQ (z:= .agg #[.int .i64 0,.string ByteArray.empty,.string ByteArray.empty]) underlying30 (by kernel_rfl) rfl qe
theorem Rz:dV prog 31 174 2 32:=fQ (z:= .agg #[.string ByteArray.empty,.string ByteArray.empty]) underlying31 (by kernel_rfl) rfl qe
theorem aCm:dV prog 36 194 3 32:=fQ (z:= .agg #[.int .i64 0,.int .i64 0,.string ByteArray.empty]) underlying36 (by kernel_rfl) rfl qe
theorem aCn:dV prog 311 281 7 72:=fQ (z:= .agg #[.int .i64 0,.string ByteArray.empty,.bool false,.int .i64 0,.int .i64 0,.int .i64 0,.string ByteArray.empty]) underlying311 (by kernel_rfl) rfl qe
theorem aCo:dV prog 267 294 7 72:=fQ (z:= .agg #[.int .i64 0,.int .i64 0,.int .i64 0,.string ByteArray.empty,.int .i64 0,.string ByteArray.empty,.bool false]) underlying267 (by kernel_rfl) rfl qe
theorem aCp:dV prog 34 269 5 96:=fQ (z:= .agg #[.string ByteArray.empty,.bool false,.slice none 0 0,.slice none 0 0,.slice none 0 0]) underlying34 (by kernel_rfl) rfl qe
theorem aCq:dV prog 35 38 7 128:=fQ (z:= .agg #[.string ByteArray.empty,.bool false,.int .i64 0,.slice none 0 0,.slice none 0 0,.slice none 0 0,.slice none 0 0]) underlying35 (by kernel_rfl) rfl qe
theorem CV{ok:nP}(v:Value)(l:List rS)(w:World)(h:aH lE w ok v l):Calls prog 41 #[v] w (bW lE 3 52 ok l w):=by
 obtain⟨a,c,rfl,n⟩:=h.slice;unfold bW
 rcases a with _|k
 .have B:=kC bS qe h;subst B;have heq:=Lib.run_eql_slice_nil (P:=prog) w 44 52 none 0 c 0 0 underlying44;clear h;go_enter func41,ntmps41;exact BJ
 .obtain⟨D,E,cs,b,h1,h2,_⟩:=h;injection b with b _ z;subst b z;have heq:=Lib.run_eql_slice_nil (P:=prog) w 44 52 (some k) l.length c 0 0 underlying44;have d:Below w.heap.size w (w.alloc (.cells #[] 52)):=(Below.refl _ _).alloc (lR _) _;have g:=aA (World.ownsRow_made (e:=52) w #[] 0 (lR _) (by simp[maxLen]) rfl:(w.alloc (.cells #[] 52)).ownsRow w.heap.size 52 3 (.slice (some ⟨w.heap.size,0,none⟩) 0 0) 0 []);have s:=aA (h2.len (fun _ _ f=>bS.len f));have t:=aA (h2.aDp (fun _ _ f=>bS.one f));obtain⟨y,r,q,j⟩:=dG (h1.lt.below d) h2 d n;clear h1 h2 d n;go_enter func41,ntmps41;go_wp2_with (at_builtin;refine fR Cc rfl (.tmp 5) (.tmp 6) rfl w.heap.size (.slice (some ⟨w.heap.size,0,none⟩) 0 0) 0 [] rfl g.o (some k) l.length c cs rfl s.o (y.o.more qs) t.o (by have:=j.o;unfold maxLen;omega) (qA j.o) qs ?_;intro C c1 w1 p m A;have i:=aA (dU g.o q.o m (lR _) qs);have x:=aA p;clear p m A)
  go_returns;have o:=x.o;simp only[Nat.zero_add,List.nil_append] at o ⊢;exact⟨_,rfl,lJ bS r.o i.o o,i.o⟩
theorem TJ{ok:nP}(v:Value)(l:List oH)(w:World)(h:aH kM w ok v l):Calls prog 40 #[v] w (bW kM 4 57 ok l w):=by
 obtain⟨a,c,rfl,n⟩:=h.slice;unfold bW
 rcases a with _|k
 .have B:=kC bL qe h;subst B;have heq:=Lib.run_eql_slice_nil (P:=prog) w 43 57 none 0 c 0 0 underlying43;clear h;go_enter func40,ntmps40;exact BJ
 .obtain⟨D,E,cs,b,h1,h2,_⟩:=h;injection b with b _ z;subst b z;have heq:=Lib.run_eql_slice_nil (P:=prog) w 43 57 (some k) l.length c 0 0 underlying43;have d:Below w.heap.size w (w.alloc (.cells #[] 57)):=(Below.refl _ _).alloc (lR _) _;have g:=aA (World.ownsRow_made (e:=57) w #[] 0 (lR _) (by simp[maxLen]) rfl:(w.alloc (.cells #[] 57)).ownsRow w.heap.size 57 4 (.slice (some ⟨w.heap.size,0,none⟩) 0 0) 0 []);have s:=aA (h2.len (fun _ _ f=>bL.len f));have t:=aA (h2.aDp (fun _ _ f=>bL.one f));obtain⟨y,r,q,j⟩:=dG (h1.lt.below d) h2 d n;clear h1 h2 d n;go_enter func40,ntmps40;go_wp2_with (at_builtin;refine fR wX rfl (.tmp 5) (.tmp 6) rfl w.heap.size (.slice (some ⟨w.heap.size,0,none⟩) 0 0) 0 [] rfl g.o (some k) l.length c cs rfl s.o (y.o.more qs) t.o (by have:=j.o;unfold maxLen;omega) (qA j.o) qs ?_;intro C c1 w1 p m A;have i:=aA (dU g.o q.o m (lR _) qs);have x:=aA p;clear p m A)
  go_returns;have o:=x.o;simp only[Nat.zero_add,List.nil_append] at o ⊢;exact⟨_,rfl,lJ bL r.o i.o o,i.o⟩
theorem CW{ok:nP}(v:Value)(l:List cF)(w:World)(h:aH pV w ok v l):Calls prog 104 #[v] w (bW pV 5 46 ok l w):=by
 obtain⟨a,c,rfl,n⟩:=h.slice;unfold bW
 rcases a with _|k
 .have B:=kC dM qe h;subst B;have heq:=Lib.run_eql_slice_nil (P:=prog) w 28 46 none 0 c 0 0 underlying28;clear h;go_enter func104,ntmps104;exact BJ
 .obtain⟨D,E,cs,b,h1,h2,_⟩:=h;injection b with b _ z;subst b z;have heq:=Lib.run_eql_slice_nil (P:=prog) w 28 46 (some k) l.length c 0 0 underlying28;have d:Below w.heap.size w (w.alloc (.cells #[] 46)):=(Below.refl _ _).alloc (lR _) _;have g:=aA (World.ownsRow_made (e:=46) w #[] 0 (lR _) (by simp[maxLen]) rfl:(w.alloc (.cells #[] 46)).ownsRow w.heap.size 46 5 (.slice (some ⟨w.heap.size,0,none⟩) 0 0) 0 []);have s:=aA (h2.len (fun _ _ f=>dM.len f));have t:=aA (h2.aDp (fun _ _ f=>dM.one f));obtain⟨y,r,q,j⟩:=dG (h1.lt.below d) h2 d n;clear h1 h2 d n;go_enter func104,ntmps104;go_wp2_with (at_builtin;refine fR zS rfl (.tmp 5) (.tmp 6) rfl w.heap.size (.slice (some ⟨w.heap.size,0,none⟩) 0 0) 0 [] rfl g.o (some k) l.length c cs rfl s.o (y.o.more qs) t.o (by have:=j.o;unfold maxLen;omega) (qA j.o) qs ?_;intro C c1 w1 p m A;have i:=aA (dU g.o q.o m (lR _) qs);have x:=aA p;clear p m A)
  go_returns;have o:=x.o;simp only[Nat.zero_add,List.nil_append] at o ⊢;exact⟨_,rfl,lJ dM r.o i.o o,i.o⟩
theorem CX{ok:nP}(v:Value)(l:List vU)(w:World)(h:aH sU w ok v l):Calls prog 102 #[v] w (bW sU 7 183 ok l w):=by
 obtain⟨a,c,rfl,n⟩:=h.slice;unfold bW
 rcases a with _|k
 .have B:=kC cT qe h;subst B;have heq:=Lib.run_eql_slice_nil (P:=prog) w 29 183 none 0 c 0 0 underlying29;clear h;go_enter func102,ntmps102;exact BJ
 .obtain⟨D,E,cs,b,h1,h2,_⟩:=h;injection b with b _ z;subst b z;have heq:=Lib.run_eql_slice_nil (P:=prog) w 29 183 (some k) l.length c 0 0 underlying29;have d:Below w.heap.size w (w.alloc (.cells #[] 183)):=(Below.refl _ _).alloc (lR _) _;have g:=aA (World.ownsRow_made (e:=183) w #[] 0 (lR _) (by simp[maxLen]) rfl:(w.alloc (.cells #[] 183)).ownsRow w.heap.size 183 7 (.slice (some ⟨w.heap.size,0,none⟩) 0 0) 0 []);have s:=aA (h2.len (fun _ _ f=>cT.len f));have t:=aA (h2.aDp (fun _ _ f=>cT.one f));obtain⟨y,r,q,j⟩:=dG (h1.lt.below d) h2 d n;clear h1 h2 d n;go_enter func102,ntmps102;go_wp2_with (at_builtin;refine fR Rx rfl (.tmp 5) (.tmp 6) rfl w.heap.size (.slice (some ⟨w.heap.size,0,none⟩) 0 0) 0 [] rfl g.o (some k) l.length c cs rfl s.o (y.o.more qs) t.o (by have:=j.o;unfold maxLen;omega) (qA j.o) qs ?_;intro C c1 w1 p m A;have i:=aA (dU g.o q.o m (lR _) qs);have x:=aA p;clear p m A)
  go_returns;have o:=x.o;simp only[Nat.zero_add,List.nil_append] at o ⊢;exact⟨_,rfl,lJ cT r.o i.o o,i.o⟩
theorem CY{ok:nP}(v:Value)(l:List xQ)(w:World)(h:aH vV w ok v l):Calls prog 103 #[v] w (bW vV 3 186 ok l w):=by
 obtain⟨a,c,rfl,n⟩:=h.slice;unfold bW
 rcases a with _|k
 .have B:=kC dZ qe h;subst B;have heq:=Lib.run_eql_slice_nil (P:=prog) w 30 186 none 0 c 0 0 underlying30;clear h;go_enter func103,ntmps103;exact BJ
 .obtain⟨D,E,cs,b,h1,h2,_⟩:=h;injection b with b _ z;subst b z;have heq:=Lib.run_eql_slice_nil (P:=prog) w 30 186 (some k) l.length c 0 0 underlying30;have d:Below w.heap.size w (w.alloc (.cells #[] 186)):=(Below.refl _ _).alloc (lR _) _;have g:=aA (World.ownsRow_made (e:=186) w #[] 0 (lR _) (by simp[maxLen]) rfl:(w.alloc (.cells #[] 186)).ownsRow w.heap.size 186 3 (.slice (some ⟨w.heap.size,0,none⟩) 0 0) 0 []);have s:=aA (h2.len (fun _ _ f=>dZ.len f));have t:=aA (h2.aDp (fun _ _ f=>dZ.one f));obtain⟨y,r,q,j⟩:=dG (h1.lt.below d) h2 d n;clear h1 h2 d n;go_enter func103,ntmps103;go_wp2_with (at_builtin;refine fR Ry rfl (.tmp 5) (.tmp 6) rfl w.heap.size (.slice (some ⟨w.heap.size,0,none⟩) 0 0) 0 [] rfl g.o (some k) l.length c cs rfl s.o (y.o.more qs) t.o (by have:=j.o;unfold maxLen;omega) (qA j.o) qs ?_;intro C c1 w1 p m A;have i:=aA (dU g.o q.o m (lR _) qs);have x:=aA p;clear p m A)
  go_returns;have o:=x.o;simp only[Nat.zero_add,List.nil_append] at o ⊢;exact⟨_,rfl,lJ dZ r.o i.o o,i.o⟩
theorem TK{ok:nP}(v:Value)(l:List wV)(w:World)(h:aH qT w ok v l):Calls prog 154 #[v] w (bW qT 2 174 ok l w):=by
 obtain⟨a,c,rfl,n⟩:=h.slice;unfold bW
 rcases a with _|k
 .have B:=kC dC qe h;subst B;have heq:=Lib.run_eql_slice_nil (P:=prog) w 31 174 none 0 c 0 0 underlying31;clear h;go_enter func154,ntmps154;exact BJ
 .obtain⟨D,E,cs,b,h1,h2,_⟩:=h;injection b with b _ z;subst b z;have heq:=Lib.run_eql_slice_nil (P:=prog) w 31 174 (some k) l.length c 0 0 underlying31;have d:Below w.heap.size w (w.alloc (.cells #[] 174)):=(Below.refl _ _).alloc (lR _) _;have g:=aA (World.ownsRow_made (e:=174) w #[] 0 (lR _) (by simp[maxLen]) rfl:(w.alloc (.cells #[] 174)).ownsRow w.heap.size 174 2 (.slice (some ⟨w.heap.size,0,none⟩) 0 0) 0 []);have s:=aA (h2.len (fun _ _ f=>dC.len f));have t:=aA (h2.aDp (fun _ _ f=>dC.one f));obtain⟨y,r,q,j⟩:=dG (h1.lt.below d) h2 d n;clear h1 h2 d n;go_enter func154,ntmps154;go_wp2_with (at_builtin;refine fR Rz rfl (.tmp 5) (.tmp 6) rfl w.heap.size (.slice (some ⟨w.heap.size,0,none⟩) 0 0) 0 [] rfl g.o (some k) l.length c cs rfl s.o (y.o.more qs) t.o (by have:=j.o;unfold maxLen;omega) (qA j.o) qs ?_;intro C c1 w1 p m A;have i:=aA (dU g.o q.o m (lR _) qs);have x:=aA p;clear p m A)
  go_returns;have o:=x.o;simp only[Nat.zero_add,List.nil_append] at o ⊢;exact⟨_,rfl,lJ dC r.o i.o o,i.o⟩
theorem FU{ok:nP}(v:Value)(l:List Ob)(w:World)(h:aH jU w ok v l):Calls prog 198 #[v] w (bW jU 3 194 ok l w):=by
 obtain⟨a,c,rfl,n⟩:=h.slice;unfold bW
 rcases a with _|k
 .have B:=kC aP qe h;subst B;have heq:=Lib.run_eql_slice_nil (P:=prog) w 36 194 none 0 c 0 0 underlying36;clear h;go_enter func198,ntmps198;exact BJ
 .obtain⟨D,E,cs,b,h1,h2,_⟩:=h;injection b with b _ z;subst b z;have heq:=Lib.run_eql_slice_nil (P:=prog) w 36 194 (some k) l.length c 0 0 underlying36;have d:Below w.heap.size w (w.alloc (.cells #[] 194)):=(Below.refl _ _).alloc (lR _) _;have g:=aA (World.ownsRow_made (e:=194) w #[] 0 (lR _) (by simp[maxLen]) rfl:(w.alloc (.cells #[] 194)).ownsRow w.heap.size 194 3 (.slice (some ⟨w.heap.size,0,none⟩) 0 0) 0 []);have s:=aA (h2.len (fun _ _ f=>aP.len f));have t:=aA (h2.aDp (fun _ _ f=>aP.one f));obtain⟨y,r,q,j⟩:=dG (h1.lt.below d) h2 d n;clear h1 h2 d n;go_enter func198,ntmps198;go_wp2_with (at_builtin;refine fR aCm rfl (.tmp 5) (.tmp 6) rfl w.heap.size (.slice (some ⟨w.heap.size,0,none⟩) 0 0) 0 [] rfl g.o (some k) l.length c cs rfl s.o (y.o.more qs) t.o (by have:=j.o;unfold maxLen;omega) (qA j.o) qs ?_;intro C c1 w1 p m A;have i:=aA (dU g.o q.o m (lR _) qs);have x:=aA p;clear p m A)
  go_returns;have o:=x.o;simp only[Nat.zero_add,List.nil_append] at o ⊢;exact⟨_,rfl,lJ aP r.o i.o o,i.o⟩
theorem XI{ok:nP}(v:Value)(l:List Ma)(w:World)(h:aH rM w ok v l):Calls prog 237 #[v] w (bW rM 7 281 ok l w):=by
 obtain⟨a,c,rfl,n⟩:=h.slice;unfold bW
 rcases a with _|k
 .have B:=kC eQ qe h;subst B;have heq:=Lib.run_eql_slice_nil (P:=prog) w 311 281 none 0 c 0 0 underlying311;clear h;go_enter func237,ntmps237;exact BJ
 .obtain⟨D,E,cs,b,h1,h2,_⟩:=h;injection b with b _ z;subst b z;have heq:=Lib.run_eql_slice_nil (P:=prog) w 311 281 (some k) l.length c 0 0 underlying311;have d:Below w.heap.size w (w.alloc (.cells #[] 281)):=(Below.refl _ _).alloc (lR _) _;have g:=aA (World.ownsRow_made (e:=281) w #[] 0 (lR _) (by simp[maxLen]) rfl:(w.alloc (.cells #[] 281)).ownsRow w.heap.size 281 7 (.slice (some ⟨w.heap.size,0,none⟩) 0 0) 0 []);have s:=aA (h2.len (fun _ _ f=>eQ.len f));have t:=aA (h2.aDp (fun _ _ f=>eQ.one f));obtain⟨y,r,q,j⟩:=dG (h1.lt.below d) h2 d n;clear h1 h2 d n;go_enter func237,ntmps237;go_wp2_with (at_builtin;refine fR aCn rfl (.tmp 5) (.tmp 6) rfl w.heap.size (.slice (some ⟨w.heap.size,0,none⟩) 0 0) 0 [] rfl g.o (some k) l.length c cs rfl s.o (y.o.more qs) t.o (by have:=j.o;unfold maxLen;omega) (qA j.o) qs ?_;intro C c1 w1 p m A;have i:=aA (dU g.o q.o m (lR _) qs);have x:=aA p;clear p m A)
  go_returns;have o:=x.o;simp only[Nat.zero_add,List.nil_append] at o ⊢;exact⟨_,rfl,lJ eQ r.o i.o o,i.o⟩
theorem XJ{ok:nP}(v:Value)(l:List No)(w:World)(h:aH JN w ok v l):Calls prog 201 #[v] w (bW JN 7 294 ok l w):=by
 obtain⟨a,c,rfl,n⟩:=h.slice;unfold bW
 rcases a with _|k
 .have B:=kC dP qe h;subst B;have heq:=Lib.run_eql_slice_nil (P:=prog) w 267 294 none 0 c 0 0 underlying267;clear h;go_enter func201,ntmps201;exact BJ
 .obtain⟨D,E,cs,b,h1,h2,_⟩:=h;injection b with b _ z;subst b z;have heq:=Lib.run_eql_slice_nil (P:=prog) w 267 294 (some k) l.length c 0 0 underlying267;have d:Below w.heap.size w (w.alloc (.cells #[] 294)):=(Below.refl _ _).alloc (lR _) _;have g:=aA (World.ownsRow_made (e:=294) w #[] 0 (lR _) (by simp[maxLen]) rfl:(w.alloc (.cells #[] 294)).ownsRow w.heap.size 294 7 (.slice (some ⟨w.heap.size,0,none⟩) 0 0) 0 []);have s:=aA (h2.len (fun _ _ f=>dP.len f));have t:=aA (h2.aDp (fun _ _ f=>dP.one f));obtain⟨y,r,q,j⟩:=dG (h1.lt.below d) h2 d n;clear h1 h2 d n;go_enter func201,ntmps201;go_wp2_with (at_builtin;refine fR aCo rfl (.tmp 5) (.tmp 6) rfl w.heap.size (.slice (some ⟨w.heap.size,0,none⟩) 0 0) 0 [] rfl g.o (some k) l.length c cs rfl s.o (y.o.more qs) t.o (by have:=j.o;unfold maxLen;omega) (qA j.o) qs ?_;intro C c1 w1 p m A;have i:=aA (dU g.o q.o m (lR _) qs);have x:=aA p;clear p m A)
  go_returns;have o:=x.o;simp only[Nat.zero_add,List.nil_append] at o ⊢;exact⟨_,rfl,lJ dP r.o i.o o,i.o⟩
theorem XK{ok:nP}(v:Value)(l:List Ru)(w:World)(h:aH yH w ok v l):Calls prog 199 #[v] w (bW yH 5 269 ok l w):=by
 obtain⟨a,c,rfl,n⟩:=h.slice;unfold bW
 rcases a with _|k
 .have B:=kC bM qe h;subst B;have heq:=Lib.run_eql_slice_nil (P:=prog) w 34 269 none 0 c 0 0 underlying34;clear h;go_enter func199,ntmps199;exact BJ
 .obtain⟨D,E,cs,b,h1,h2,_⟩:=h;injection b with b _ z;subst b z;have heq:=Lib.run_eql_slice_nil (P:=prog) w 34 269 (some k) l.length c 0 0 underlying34;have d:Below w.heap.size w (w.alloc (.cells #[] 269)):=(Below.refl _ _).alloc (lR _) _;have g:=aA (World.ownsRow_made (e:=269) w #[] 0 (lR _) (by simp[maxLen]) rfl:(w.alloc (.cells #[] 269)).ownsRow w.heap.size 269 5 (.slice (some ⟨w.heap.size,0,none⟩) 0 0) 0 []);have s:=aA (h2.len (fun _ _ f=>bM.len f));have t:=aA (h2.aDp (fun _ _ f=>bM.one f));obtain⟨y,r,q,j⟩:=dG (h1.lt.below d) h2 d n;clear h1 h2 d n;go_enter func199,ntmps199;go_wp2_with (at_builtin;refine fR aCp rfl (.tmp 5) (.tmp 6) rfl w.heap.size (.slice (some ⟨w.heap.size,0,none⟩) 0 0) 0 [] rfl g.o (some k) l.length c cs rfl s.o (y.o.more qs) t.o (by have:=j.o;unfold maxLen;omega) (qA j.o) qs ?_;intro C c1 w1 p m A;have i:=aA (dU g.o q.o m (lR _) qs);have x:=aA p;clear p m A)
  go_returns;have o:=x.o;simp only[Nat.zero_add,List.nil_append] at o ⊢;exact⟨_,rfl,lJ bM r.o i.o o,i.o⟩
theorem XL{n:Nat}{ok:nP}(v:Value)(l:List Po)(w:World)(h:aH (pY n) w ok v l):Calls prog 200 #[v] w (bW (pY n) 7 38 ok l w):=by
 obtain⟨a,c,rfl,o⟩:=h.slice;unfold bW
 rcases a with _|k
 .have C:=kC (bB n) qe h;subst C;have heq:=Lib.run_eql_slice_nil (P:=prog) w 35 38 none 0 c 0 0 underlying35;clear h;go_enter func200,ntmps200;exact BJ
 .obtain⟨E,F,cs,b,h1,h2,_⟩:=h;injection b with b _ A;subst b A;have heq:=Lib.run_eql_slice_nil (P:=prog) w 35 38 (some k) l.length c 0 0 underlying35;have d:Below w.heap.size w (w.alloc (.cells #[] 38)):=(Below.refl _ _).alloc (lR _) _;have g:=aA (World.ownsRow_made (e:=38) w #[] 0 (lR _) (by simp[maxLen]) rfl:(w.alloc (.cells #[] 38)).ownsRow w.heap.size 38 7 (.slice (some ⟨w.heap.size,0,none⟩) 0 0) 0 []);have t:=aA (h2.len (fun _ _ f=>(bB n).len f));have x:=aA (h2.aDp (fun _ _ f=>(bB n).one f));obtain⟨z,s,r,j⟩:=dG (h1.lt.below d) h2 d o;clear h1 h2 d o;go_enter func200,ntmps200;go_wp2_with (at_builtin;refine fR aCq rfl (.tmp 5) (.tmp 6) rfl w.heap.size (.slice (some ⟨w.heap.size,0,none⟩) 0 0) 0 [] rfl g.o (some k) l.length c cs rfl t.o (z.o.more qs) x.o (by have:=j.o;unfold maxLen;omega) (qA j.o) qs ?_;intro D c1 w1 q m B;have i:=aA (dU g.o r.o m (lR _) qs);have y:=aA q;clear q m B)
  go_returns;have p:=y.o;simp only[Nat.zero_add,List.nil_append] at p ⊢;exact⟨_,rfl,lJ (bB n) s.o i.o p,i.o⟩
end Go.Proofs.YtbinmcabjnoliaaGreatDoor
