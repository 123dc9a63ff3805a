/- Lemmas. -/
import Derived.Test.YtbinmcabjnoliaaGreatDoorMao
namespace Go.Proofs.YtbinmcabjnoliaaGreatDoor
open Go.RowKit
set_option linter.unusedVariables false
set_option linter.unusedSimpArgs false
set_option maxHeartbeats 16000000
open _root_.Go.Proofs.Tryz
set_option maxRecDepth 20000
def Fr(g:Nat)(v:Value)(w w':World):Prop:=aN (fun b=>b≠g/\some b≠v.ownBlock) w w'
def jX(v v':Value)(w:World):Prop:=∀b,v'.ownBlock=some b->v.ownBlock=some b\/w.heap.size<=b
theorem Fr.refl(g:Nat)(v:Value)(w:World):Fr g v w w:=aN.refl _ _
theorem jX.refl(v:Value)(w:World):jX v v w:=fun b h=> .inl h
theorem Fr.size{g:Nat}{v:Value}{w w':World}(h:Fr g v w w'):w.heap.size<=w'.heap.size:=aN.size h
theorem Fr.trans{g:Nat}{v v1:Value}{w w1 w2:World}(h:Fr g v w w1)(o:jX v v1 w)(k:Fr g v1 w1 w2):Fr g v w w2:=
 ⟨k.os.trans h.os,k.tape.trans h.tape,k.output.trans h.output,lT (aN.size h) (aN.size k),fun b c a=>(aN.block k b (lL c (aN.size h)) ⟨a.1,fun e=>by
   rcases o b e.symm with h1|h1
   .exact a.2 h1.symm
   .omega⟩).trans (aN.block h b c a)⟩
theorem jX.trans{v v1 v2:Value}{w w1:World}(h:jX v v1 w)(k:jX v1 v2 w1)(c:w.heap.size<=w1.heap.size):jX v v2 w:=fun b a=>by
 rcases k b a with h1|h1
 .exact h b h1
 .exact .inr qo
theorem Fr.aC8{g:Nat}{v:Value}{w w1 w2:World}(h:Fr g v w w1)(k:aN (fun b=>b≠g) w1 w2):Fr g v w w2:=aN.trans h (k.mono fun _ _ h=>h.1)
theorem Fr.new{g:Nat}{v:Value}{w w1 w2:World}(h:Fr g v w w1)(k:Below w1.heap.size w1 w2):Fr g v w w2:=aN.trans h (aJ k)
theorem Fr.set{g:Nat}{v:Value}{w w1:World}(h:Fr g v w w1){b i:Nat}{u:Value}(e:w.heap.size<=b):Fr g v w (w1.setCell ⟨b,i,none⟩ u):=by
 have a:aN (fun b=>b≠g/\some b≠v.ownBlock) w w1:=h;exact⟨a.os,a.tape,a.output,by have:=a.size;simpa [World.setCell] using this,fun k c d=>(Below.heap_setCell _ _ _ _ (by simp only;omega)).trans (a.block k c d)⟩
theorem Fr.grown{α:Type}{R:Rep α}{s:Nat}{e:TypeId}{base:Nat}{ok:nP}{l:List α}{g:Nat}{v v1:Value}{w w1 w2:World}(h:Fr g v w w1)(o:jX v v1 w)(f:aM R s e w1 base ok v1 l)(a:w1.grownBy w2 v1.ownBlock):Fr g v w w2:=
 ⟨a.os.trans (aN.os h),a.tape.trans (aN.tape h),a.output.trans (aN.output h),lT (aN.size h) a.size,fun b c d=>(a.block b (lL c (aN.size h)) (fun e=>by
   rcases o b e.symm with h1|h1
   .exact d.2 h1.symm
   .omega)).trans (aN.block h b c d)⟩
theorem Fr.blk{g:Nat}{v:Value}{w w':World}{b:Nat}{o:Obj}(h:w.heap[b]? =some o)(k:Fr g v w w')(a:b≠g)(c:∀x,v.ownBlock=some x->x≠b):w'.heap[b]? =some o:=
 aF h k ⟨a,fun e=>c b e.symm rfl⟩
abbrev jY(w:World)(B:Nat)(v:Value)(l:List No):Prop:=aM JN 7 294 w B (fun _=>False) v l
theorem jY.stays{w w':World}{B:Nat}{ok:nP}{v:Value}{l:List No}(h:jY w B v l)(k:aN ok w w')(a:∀b,v.ownBlock=some b->ok b):jY w' B v l:=by
 obtain⟨cs,h1,h2⟩:=h;exact⟨cs,lN h1 k a,h2.mono fun _ _ h=>h⟩
structure Oa (L:List Tok) (g B:Nat) (v:Value) (w:World) (l':List No) (p':PS) (v':Value) (w':World):Prop where
 row:jY w' B v' l'
 pw:PW L w' g p'
 fr:Fr g v w w'
 own:jX v v' w
def Xy(L:List Tok)(g B:Nat)(v:Value)(w:World)(l':List No)(p':PS)(e:Ending)(w':World):Prop:=∃v',e=.returned v'/\Oa L g B v w l' p' v' w'
def AD(L:List Tok)(g B:Nat)(v:Value)(w:World)(l':List No)(b:Bool)(p':PS)(e:Ending)(w':World):Prop:=∃v',e=.returned (.tuple #[v',.bool b])/\Oa L g B v w l' p' v' w'
def Oc(L:List Tok)(g B:Nat)(v:Value)(w:World)(l':List No)(n:No)(p':PS)(e:Ending)(w':World):Prop:=∃v',e=.returned (.tuple #[v',jJ n])/\Oa L g B v w l' p' v' w'
structure xC (L:List Tok) (f:Nat) (g B:Nat) (v:Value) (w:World) (l:List No) (p:PS):Prop where
 fuel:L.length<=f+p.at_
 at_:p.at_<L.length
 len:l.length<=10+2 * p.at_
 low:g<B
 base:B<=w.heap.size
 pw:PW L w g p
 row:jY w B v l
def EV(L:List Tok)(f:Nat):Prop:=∀l p g B v w,xC L f g B v w l p->
 Calls prog 248 #[.pointer (some ⟨g,0,none⟩),v] w (AD L g B v w (eW L f l p).1.1 (eW L f l p).1.2 (eW L f l p).2)
def iE(L:List Tok)(f:Nat)(l:List No)(must:Bool)(p:PS):List No×PS:=
 ((eW L f l p).1.1,if (eW L f l p).1.2≠must then eP 5 (aU L p).at_ (eW L f l p).2 else (eW L f l p).2)
theorem KI{L:List Tok}{f:Nat}(T:Toks L)(z:EV L f)(l:List No)(must:Bool)(p:PS)(g B:Nat)(v:Value)(w:World)(h:xC L f g B v w l p):
 Calls prog 223 #[.pointer (some ⟨g,0,none⟩),v,.bool must] w (Xy L g B v w (iE L f l must p).1 (iE L f l must p).2):=by
 have G:=T.len;obtain⟨a,j,C⟩:=aY h (gH h.at_ G g w h.pw) z;unfold Xy iE;unfold iA at j;dsimp only;clear z h;have y:=SH (aU L p).aCR (aU L p).at_ (aU L p).num (aU L p).str;have n:=aA (C.o l p g B v);generalize eW L f l p=r at *;generalize aU L p=t at *;by_cases hm:r.1.2=must
 .rw[iN (fun h=>h hm)];have I:(!(r.1.2==must))=false:=by rw[hm];simp
  clear hm;go_enter func223,ntmps223;go_wp2_with fail;refine j.o.mono ?_;rintro e w1 ⟨rfl,c⟩;have k:Hid (xC L f g B v w1 l p):=aA ⟨a.o.fuel,a.o.at_,a.o.len,a.o.low,lT a.o.base c.size,a.o.pw.on c,a.o.row.stays (aJ c (ok:=fun _=>True)) (fun _ _=>trivial)⟩;have i:=aA c;clear c j;go_wp2_with fail;refine(n.o w1 k.o).mono ?_;rintro e w2 ⟨v',rfl,m⟩;have d:=aA m;clear m n k y;have o:Hid (Fr g v w w2):=aA (((Fr.refl g v w).new i.o).trans (jX.refl v w) d.o.fr);have q:Hid (jX v v' w):=aA (jX.trans (jX.refl v w) d.o.own i.o.size);go_wp2;go_ret;exact⟨v',rfl,⟨d.o.row,d.o.pw,o.o,q.o⟩⟩
 .rw[iP hm];have I:(!(r.1.2==must))=true:=by simpa using hm
  clear hm;go_enter func223,ntmps223;go_wp2_with fail;refine j.o.mono ?_;rintro e w1 ⟨rfl,c⟩;have k:Hid (xC L f g B v w1 l p):=aA ⟨a.o.fuel,a.o.at_,a.o.len,a.o.low,lT a.o.base c.size,a.o.pw.on c,a.o.row.stays (aJ c (ok:=fun _=>True)) (fun _ _=>trivial)⟩;have i:=aA c;clear c j;go_wp2_with fail;refine(n.o w1 k.o).mono ?_;rintro e w2 ⟨v',rfl,m⟩;have d:=aA m;clear m n k y;have o:Hid (Fr g v w w2):=aA (((Fr.refl g v w).new i.o).trans (jX.refl v w) d.o.fr);have q:Hid (jX v v' w):=aA (jX.trans (jX.refl v w) d.o.own i.o.size);have x:=aA (tT 5 t.at_ g w2 d.o.pw);go_wp2_with fail;refine x.o.mono ?_;rintro e J ⟨rfl,A,s⟩;have E:=aA A;have D:=aA (o.o.aC8 s);have F:=aA (d.o.row.stays s (fun b H=>by have h1:=(aM.lt d.o.row b H).1;have h2:=a.o.low;show b≠g;omega));clear A s x;go_wp2;go_ret;exact⟨v',rfl,⟨F.o,E.o,D.o,q.o⟩⟩
theorem QAm{p:Prop}(h:p:=by
 have hq:=HX.o.at_;have HPX:=aA HX.o.pw;have HGX:=aA HX.o.row;have HFX:=aA (HF2.o.trans HO2.o HX.o.fr);have HOX:=aA (jX.trans HO2.o HX.o.own HF2.o.size);have BRX:=aA (Fr.blk BR2.o HX.o.fr qo (fun x hx=>qA (HOV.o x hx)));have BNX:=aA (Fr.blk BN2.o HX.o.fr qo (fun x hx=>qA (HOV.o x hx)));have HNB:Hid (∀x,v'.ownBlock=some x->x≠w.heap.size):=aA (fun x hx=>by
  rcases HX.o.own x hx with h1|h1
  .have:=HOV.o x h1;omega
  .omega)
 obtain⟨wx,hwx⟩:=xE wr;subst hwx;clear HX HS2 BR2 BN2 HF2 HO2;have HMW:=aA (HMU.o q hq wx HPX.o);rw[JR] at HMW;clear HMU;go_wp2_with fail;refine HMW.o.mono ?_;rintro e w5 ⟨rfl,h_,k_⟩;have HP5:=aA h_;have HG5:=aA (HGX.o.stays k_ (fun b hb=>by have h1:=(aM.lt HGX.o b hb).1;show b≠g;omega));have HF5:=aA (HFX.o.aC8 k_);have B_R:=qS BRX k_ qo;have B_N:=qS BNX k_ qo;clear h_ k_ HMW HPX HGX HFX BRX BNX;obtain⟨⟨x0,x1,x2,x3,x4,x5,x6⟩,f0,f1,f2,f3,f4,f5,f6⟩:=bJ B_R.o;obtain⟨⟨y0,y1,y2,y3,y4,y5,y6⟩,_⟩:=bJ B_N.o;have hz5:=aD B_R.o;have hz6:=aD B_N.o;go_wp2;go_region
 all_goals
  go_wp2;refine bR (.tuple #[v',.agg #[.int .i64 (2+rop),.int .i64 0,.int .i64 0,.string ⟨#[]⟩,.int .i64 0,.string ⟨#[]⟩,.bool false]]) ?_;rw[HST.o];refine⟨v',rfl,⟨?_,?_,?_,HOX.o⟩⟩
  .exact(((((((HG5.o.set HNB.o).set HNB.o).set HNB.o).set HNB.o).set HNB.o).set HNB.o).set HNB.o).drew
  .rw[JR];exact(((((((HP5.o.set qo).set qo).set qo).set qo).set qo).set qo).set qo).drew
  .exact(((((((HF5.o.set qo).set qo).set qo).set qo).set qo).set qo).set qo).drew):p:=h
theorem TT(L:List Tok)(f:Nat):∀(ms:List Bool) (l:List No) (q:PS),q.bad≠0->pW L f ms (l,q)=(l,q)
 | [],l,q,_=>rfl
 |m::ms,l,q,h=>by
  show pW L f ms (dE L f (l,q) m)=(l,q);unfold dE;rw[iP h];exact TT L f ms l q h
theorem Hq(L:List Tok)(f:Nat)(m:Bool)(ms:List Bool)(l:List No)(q:PS)(h:q.bad=0):pW L f (m::ms) (l,q)=pW L f ms ((iE L f l m q).1,(iE L f l m q).2):=by
 show pW L f ms (dE L f (l,q) m)=_;unfold dE;rw[iN (show ¬(l,q).2.bad≠0 from fun a=>a h)];rfl
structure DF (L:List Tok) (f:Nat) (g B:Nat) (v:Value) (w2:World) (ms:List Bool) (R:List No×PS) (c:Nat) (k:Nat) (l:List No) (q:PS) (v':Value) (wr:World):Prop where
 res:pW L f (ms.drop k) (l,q)=R
 at_:q.at_<L.length
 fuel:L.length<=f+q.at_
 len:l.length<=c+k+2 * q.at_
 row:jY wr B v' l
 pw:PW L wr g q
 fr:Fr g v w2 wr
 own:jX v v' w2
def aCw(L:List Tok)(f:Nat)(g B:Nat)(v:Value)(w2:World)(ms:List Bool)(R:List No×PS)(c:Nat)(v' i:Value)(wr:World):Prop:=
 ∃(k:Nat) (l:List No) (q:PS) (a:Value),a=v'/\k<=ms.length/\i=.int .i64 k/\Hid (DF L f g B v w2 ms R c k l q a wr)
section
variable {L:List Tok} {f g B:Nat} {v:Value} {w2:World} {ms:List Bool} {R:List No×PS} {c k:Nat} {l:List No} {q:PS} {v':Value} {wr:World}
theorem DF.stop(h:DF L f g B v w2 ms R c k l q v' wr)(a:k=ms.length\/q.bad≠0):R=(l,q):=by
 rw[<-h.res]
 rcases a with a|a
 .rw[a,List.drop_length];rfl
 .exact TT _ _ _ _ _ a
theorem DF.next(h:DF L f g B v w2 ms R c k l q v' wr)(b:k<ms.length)(a:q.bad=0):pW L f (ms.drop (k+1)) ((iE L f l ms[k] q).1,(iE L f l ms[k] q).2)=R:=by
 rw[<-h.res,List.drop_eq_getElem_cons b,Hq _ _ _ _ _ _ a]
end
theorem TU{L:List Tok}(T:Toks L)(f:Nat)(l:List No)(m:Bool){q:PS}(h:q.at_<L.length):dK L q (iE L f l m q).2:=by
 unfold iE;have h1:=zJ T f l h;exact Rg
theorem DG{L:List Tok}(T:Toks L)(f:Nat)(l:List No)(m:Bool){q:PS}(h:q.at_<L.length):(iE L f l m q).1.length+2 * q.at_<=l.length+1+2 * (iE L f l m q).2.at_:=by
 have h1:=IY T f l h;unfold iE;split
 .rw[(IK _ _ _).1];exact h1
 .exact h1
theorem TV(op:Int):(fL op).length<=2:=by
 unfold fL
 repeat' split
 all_goals simp
theorem Fr.drew{g:Nat}{v:Value}{w w1:World}(h:Fr g v w w1):Fr g v w w1.drew:=by
 have a:aN (fun b=>b≠g/\some b≠v.ownBlock) w w1:=h;exact⟨a.os,a.tape,a.output,a.size,a.block⟩
theorem PW.drew{L:List Tok}{w:World}{g:Nat}{p:PS}(h:PW L w g p):PW L w.drew g p:=h.on ((Below.refl _ _).drew)
theorem jY.set{w:World}{B:Nat}{v u:Value}{l:List No}{b i:Nat}(h:jY w B v l)(a:∀x,v.ownBlock=some x->x≠b):jY (w.setCell ⟨b,i,none⟩ u) B v l:=
 h.stays (ok:=fun x=>x≠b) (aI u) a
theorem jY.drew{w:World}{B:Nat}{v:Value}{l:List No}(h:jY w B v l):jY w.drew B v l:=h.stays (aJ ((Below.refl _ _).drew) (ok:=fun _=>True)) (fun _ _=>trivial)
theorem XW{L:List Tok}{f:Nat}(T:Toks L)(N:EV L f)(l:List No)(p:PS)(g B:Nat)(v:Value)(w:World)(h:xC L f g B v w l p)(al:l.length<=8+2 * p.at_):
 Calls prog 266 #[.pointer (some ⟨g,0,none⟩),v] w (Oc L g B v w (wC L f l p).1.1 (wC L f l p).1.2 (wC L f l p).2):=by
 have hL:=T.len;have aa:=h.low;have af:=h.base;have j:=aA h;have A:=aA (fun a c w h hw=>nB T eB a c 11 rfl qe (j.o.at_) g w h hw);have o:=aA (fun l m q g B v w h=>KI (f:=f) T N l m q g B v w h);have HMU:=aA (fun (q:PS) (hq:q.at_<L.length) w h=>mE T (str ")") hq g w h);have m1:=dQ T eB h.at_;have t:=nM (L:=L) eB p;have P:eB.length=11:=rfl;rw[P] at t;have S:∀x,v.ownBlock=some x->x<w.heap.size:=fun x hx=>(aM.lt h.row x hx).2
 have HOV:=aA S;unfold Oc wC jJ;dsimp only;clear h N P S;generalize aZ L eB p=r at *;obtain⟨rop,W⟩:=r;dsimp only at *;obtain⟨R,C⟩:=xE (pW L f (fL (2+rop)) (l,W));rw[<-C];have K:=aA C.symm;have ao:=TV (2+rop);have H:=aA (TS (2+rop));have s1:IntKind.i64.wrap (2+rop)=2+rop:=IntWalk.i64_in _ qo;have s0:(0:Int)<=rop:=t.1;have s2:rop<=11:=t.2;have M:Hid (eB=[⟨#[111,110,101]⟩,⟨#[115,105,122,101]⟩,⟨#[104,97,115]⟩,⟨#[101,113]⟩,⟨#[108,101,115,115]⟩,⟨#[97,100,100]⟩,⟨#[115,117,98]⟩,⟨#[109,117,108]⟩,⟨#[110,111,116]⟩,⟨#[97,110,100]⟩,⟨#[111,114]⟩]):=aA (by kernel_rfl);rw[M.o] at A;clear C M t;go_enter func266,ntmps266;go_wp2_with fail;refine(A.o _ _ _ (j.o.pw.alloc.alloc) (nC _ _ _ _ _ qs rfl)).mono ?_;rintro e w1 ⟨rfl,h_,k_⟩;have z:=aA (aF (aE (aK _ _ _ rfl) (aB _ _)) k_ qo:w1.heap[w.heap.size]? =some (.cells #[.int .i64 0,.int .i64 0,.int .i64 0,.string ⟨#[]⟩,.int .i64 0,.string ⟨#[]⟩,.bool false] 294 (0,0)));have D:=aA ((((Fr.refl g v w).new (aB _ _)).new (aB _ _)).aC8 k_);have E:=aA (((j.o.row.stays (aJ (aB _ _) (ok:=fun _=>True)) (fun _ _=>trivial)).stays (aJ (aB _ _) (ok:=fun _=>True)) (fun _ _=>trivial)).stays k_ (fun b hb=>by have h1:=(aM.lt j.o.row b hb).1;show b≠g;omega));have I:=aA h_;have au:=aD z.o;clear h_ k_ A;go_wp2_with fail;refine(H.o _).mono ?_;rintro e w2 ⟨vb,rfl,n,d⟩;obtain⟨Z,bc,rfl,ai⟩:=n.slice;obtain⟨BR2,BN2,HF2⟩:=aY (aE (aE z.o (aB _ _)) d) (aE (aK _ _ _ rfl) d:w2.heap[w1.heap.size]? =some (.cells #[.int .i64 (2+rop),.int .i64 0,.int .i64 0,.string ⟨#[]⟩,.int .i64 0,.string ⟨#[]⟩,.bool false] 294 (0,0))) ((D.o.new (aB _ _)).new d)
 have F:=aA ((E.o.stays (aJ (aB _ _) (ok:=fun _=>True)) (fun _ _=>trivial)).stays (aJ d (ok:=fun _=>True)) (fun _ _=>trivial));have J:=aA ((I.o.alloc).on d);have HO2:Hid (jX v v w):=aA (jX.refl v w);have HS2:=aA n;have av:=aD BR2.o;have aw:=aD BN2.o;have ar:w.heap.size<=w2.heap.size:=qo;clear n d H z D E I;generalize fL (2+rop)=ms at *;go_wp2;go_loopw [1,18] (fun v' i wr=>aCw L f g B v w2 ms R 8 v' i wr) (fun _ i _=>ms.length - (intOf i).toNat)
 case atStart=>exact⟨0,l,W,_,rfl,qo,rfl,aA ⟨by rw[List.drop_zero];exact K.o,m1.lt,qD j.o.fuel m1.le,qA m1.le,F.o,J.o,Fr.refl _ _ _,jX.refl _ _⟩⟩
 case round=>
  clear K F J m1;obtain⟨k,y,q,v',rfl,hk,rfl,HX⟩:=hrel;by_cases Q:k<ms.length
  .have V:aH DC wr (fun b=>w1.heap.size<=b/\b<w2.heap.size) (.slice Z ms.length bc) ms:=(aH.more jN (aH.inb jN HS2.o) (fun b hb=>⟨by have:=hb.1;simp at this;omega,hb.2⟩)).aC0 jN ((show aN _ w2 wr from HX.o.fr).mono (fun x hx h=>⟨qA h.1,fun e=>qD (HOV.o x e.symm) h.1⟩));obtain⟨bb,ae,br,rfl,ag,ah,⟨rfl,_⟩,O⟩:=aH.at jN V Q qe;have z0:=O 0 _ rfl;rw[Nat.add_zero,Nat.mul_one] at z0;obtain⟨A_,c_,c0,c1,c2,c3,c4,n⟩:=HX.o.pw.cells;have ab:(k:Int)<(ms.length:Int):=qo;have ak:=HX.o.pw.lt;clear O V n c0 c1 c2 c4;by_cases hb:q.bad=0
   .rw[hb] at c3;have Y:=aA (HX.o.next Q hb);have hq:=HX.o.at_;have G:=aA (o.o y ms[k] q g B v' wr ⟨HX.o.fuel,hq,qA HX.o.len,aa,qA (aN.size (show aN _ w2 wr from HX.o.fr)),HX.o.pw,HX.o.row⟩);have hm:=TU T f y ms[k] hq;have an:=DG T f y ms[k] hq;have hle:=HX.o.len;have aj:=HX.o.fuel;have ad:=hm.lt;have aq:=hm.le;clear hb o HMU hm;generalize iE L f y ms[k] q=X at *;go_wp2_with fail;refine G.o.mono ?_;rintro e w5 ⟨v5,rfl,U⟩;have s:=aA U;clear U G z0 c3;go_wp2;go_roundw
    case rel=>exact⟨k+1,X.1,X.2,_,rfl,qo,by go_num,aA ⟨Y.o,ad,qo,qo,s.o.row,s.o.pw,HX.o.fr.trans HX.o.own s.o.fr,jX.trans HX.o.own s.o.own (aN.size (show aN _ w2 wr from HX.o.fr))⟩⟩
    case measure=>simp[intOf];omega
   .have db:(q.bad != 0)=true:=bne_iff_ne.2 hb;have HST:=aA (HX.o.stop (.inr hb));clear hb o;exact QAm
  .have ab:¬(k:Int)<(ms.length:Int):=qo;have HST:=aA (HX.o.stop (.inl qo));clear o;exact QAm
theorem FX{p:Prop}(h:p:=by
 go_wp2;go_returns;exact⟨rfl,Below.refl _ _⟩):p:=h
theorem FY{p:Prop}(h:p:=by
 go_wp2;go_returns;exact⟨by rw[HE.o];rfl,HB2.o⟩):p:=h
theorem QAX{p:Prop}(h:p:=by
 refine HLM2.o.mono ?_;rintro e wz ⟨rfl,h_,k_⟩;have HP:=aA h_;have HFz:=aA (HF4.o.aC8 k_);have HGz:=aA (jY.stays HG4.o k_ (fun b hb=>by have h1:=(aM.lt HG4.o b hb).1;show b≠g;omega));have BNz:=qS BN4 k_ qo;clear h_ k_ HLM2 HG4 HP4 HF4 BN4;rw[show (32:Int)=((32:Nat):Int) from rfl,MQ] at HP;obtain⟨⟨x0,x1,x2,x3,x4,x5,x6⟩,_⟩:=bJ BNz.o;have hzz:=aD BNz.o;go_wp2;go_region
 all_goals
  go_wp2;go_ret2
  rw[<-hl'.o];exact⟨_,rfl,⟨HGz.o.drew,HP.o.drew,HFz.o.drew,HO4.o⟩⟩):p:=h
theorem fH(s:bY)(l:lU)(h:s≠⟨l.toArray⟩):(s.toList==l)=false/\¬s.toList=l:=by
 have h2:¬s.toList=l:=fun e=>h (by rw[ByteArray.toList_eq] at e;apply ByteArray.ext;rw[<-e])
 exact⟨by simpa using h2,h2⟩
theorem fO(s:bY)(l:lU)(h:s=⟨l.toArray⟩):(s.toList==l)=true/\s.toList=l:=by
 have h2:s.toList=l:=by rw[ByteArray.toList_eq,h]
 exact⟨by simpa using h2,h2⟩
theorem MS{v v':Value}{w:World}(h:v'.ownBlock=v.ownBlock\/v'.ownBlock=some w.heap.size):jX v v' w:=fun b a=>by
 rcases h with h|h
 .exact .inl (h▸a)
 .rw[h] at a;injection a with a;exact .inr qo
theorem Ck:dV prog 267 294 7 72:=fQ (z:= .agg #[.int .i64 0,.int .i64 0,.int .i64 0,.string ByteArray.empty,.int .i64 0,.string ByteArray.empty,.bool false]) underlying267 (by kernel_rfl) rfl qe
theorem MT(a b:Int):(a==b)=decide (a=b):=by rw[Bool.eq_iff_iff,bQ,decide_eq_true_eq]
theorem Od{L:List Tok}{f:Nat}(T:Toks L)(hE:EV L f)(l:List No)(p:PS)(g B:Nat)(v:Value)(w:World)(h:xC L (f+1) g B v w l p)(H:cL L (str "(") p=true):
 Calls prog 248 #[.pointer (some ⟨g,0,none⟩),v] w (AD L g B v w (eW L (f+1) l p).1.1 (eW L (f+1) l p).1.2 (eW L (f+1) l p).2):=by
 have hL:=T.len;have ar:=h.low;have bd:=h.base;have j:=aA h;have hp:=h.at_;have X:=aA (fun w h=>gH hp hL g w h);have Y:=aA (fun w h=>eM T (str "(") hp g w h);have a6:=aA (fun b (q:PS) (hq:q.at_<L.length) w h=>kQ b hq hL g w h);have aj:=aA (show ∀x,v.ownBlock=some x->x<w.heap.size from fun x C=>(aM.lt h.row x C).2);have af:=aA (DE T f l hp);have an:=aA (wF T f l hp).lt;rw[tZ];unfold AD;dsimp only;rw[mF H,JQ] at Y;have U:=aA (fun w h hl=>XW T hE l {p with at_:=p.at_+1} g B v w h hl);have au:=fP T hp H;have a7:=aA au;have hh:gQ L f l p=wC L f l {p with at_:=p.at_+1}:=by unfold gQ;rw[iP H]
 have I:=IY T (f+1) l hp;rw[tZ] at I;dsimp only at I;have aw:=(kP (L:=L) (decide (32<((gQ L f l p).1.1++[(gQ L f l p).1.2]).length)) (wF T f l hp).lt).lt;rw[aL,List.length_singleton] at I aw;have ag:Hid ((gQ L f l p).1.1.length<=100000):=aA (qA h.len);rw[hh] at af an ag ⊢;unfold Oc jJ at U;unfold iA at X;clear h hE H au hh I aw;generalize aU L p=t at *;generalize wC L f l {p with at_:=p.at_+1}=r at *;obtain⟨⟨lh,a⟩,q⟩:=r;dsimp only at *;go_enter func248,ntmps248;go_wp2_with fail;refine(X.o _ (j.o.pw.alloc)).mono ?_;rintro e w1 ⟨rfl,A⟩;have n:=aA (aE (aK _ _ _ rfl) A:w1.heap[w.heap.size]? =some (.cells #[.int .i64 0,.int .i64 0,.int .i64 0,.string ⟨#[]⟩,.int .i64 0,.string ⟨#[]⟩,.bool false] 294 (0,0)));have s:=aA (((Fr.refl g v w).new (aB _ _)).new A);have E:=aA ((j.o.row.stays (aJ (aB _ _) (ok:=fun _=>True)) (fun _ _=>trivial)).stays (aJ A (ok:=fun _=>True)) (fun _ _=>trivial));have i:=aA ((j.o.pw.alloc).on A);have bg:=aD n.o;clear A X;go_wp2_with fail;refine(Y.o _ (i.o.alloc)).mono ?_;rintro e w2 ⟨rfl,z,c⟩;obtain⟨n,BT,s⟩:=aY (aF (aE n.o (aB _ _)) c qo) (aF (aK _ _ _ rfl) c qo:w2.heap[w1.heap.size]? =some (.cells (oB t) 146 (0,0))) ((s.o.new (aB _ _)).aC8 c);have E:=aA ((E.o.stays (aJ (aB _ _) (ok:=fun _=>True)) (fun _ _=>trivial)).stays c (fun b Z=>by have h1:=(aM.lt j.o.row b Z).1;show b≠g;omega));have i:=aA z;have bh:=aD n.o;have bj:=aD BT.o;have bf:=i.o.lt;clear z c Y;go_wp2_with fail;refine(U.o w2 ⟨by have:=j.o.fuel;show L.length<=f+(p.at_+1);omega,a7.o.lt,by have:=j.o.len;show l.length<=10+2 * (p.at_+1);omega,ar,qo,i.o,E.o⟩ (by have:=j.o.len;show l.length<=8+2 * (p.at_+1);omega)).mono ?_
 rintro e w3 ⟨v',rfl,av⟩;have k:=aA av;have D:=aA (Fr.blk n.o k.o.fr qo (fun x C=>qA (aj.o x C)));have ad:=aA (s.o.trans (jX.refl v w) k.o.fr);have ai:=aA (jX.trans (jX.refl v w) k.o.own s.o.size);have d:Hid (∀x,v'.ownBlock=some x->x≠w.heap.size):=aA (fun x C=>by
  rcases k.o.own x C with h1|h1
  .have:=aj.o x h1;omega
  .omega)
 have bk:=aD D.o;clear av U n BT s E i;obtain⟨⟨J,K,M,N,O,P,Q⟩,f0,f1,f2,f3,f4,f5,f6⟩:=bJ D.o;go_upto_region 8 with (fail)
 obtain⟨m,o⟩:=xE ((((((((w3.setCell ⟨w.heap.size,0,none⟩ (.int .i64 a.op)).setCell ⟨w.heap.size,1,none⟩ (.int .i64 a.val.1)).setCell ⟨w.heap.size,2,none⟩ (.int .i64 a.val.2.1)).setCell ⟨w.heap.size,3,none⟩ (.string a.val.2.2)).setCell ⟨w.heap.size,4,none⟩ (.int .i64 a.aDg.cat)).setCell ⟨w.heap.size,5,none⟩ (.string a.aDg.name)).setCell ⟨w.heap.size,6,none⟩ (.bool a.aDg.aDq)));rw[<-o];have az:Hid (jY m B v' lh):=aA (by rw[o];exact(((((((k.o.row.set d.o).set d.o).set d.o).set d.o).set d.o).set d.o).set d.o));have ba:Hid (PW L m g q):=aA (by rw[o];exact(((((((k.o.pw.set qo).set qo).set qo).set qo).set qo).set qo).set qo));have ax:Hid (Fr g v w m):=aA (by rw[o];exact(((((((ad.o.set qo).set qo).set qo).set qo).set qo).set qo).set qo));have S:Hid (m.heap[w.heap.size]? =some (.cells (iR a) 294 (0,0))):=aA (by rw[o];exact aG (aG (aG (aG (aG (aG (aG D.o 0 _) 1 _) 2 _) 3 _) 4 _) 5 _) 6 _);clear o J K M N O P Q f0 f1 f2 f3 f4 f5 f6 D ad k;obtain⟨⟨J,K,M,N,O,P,Q⟩,_⟩:=bJ S.o;have bl:=aD S.o;have y:=aA (aB m (.cells (iR a) 294));have ao:=aA (aK m (.cells (iR a) 294) _ rfl);have F:=aA (jY.stays az.o (aJ y.o (ok:=fun _=>True)) (fun _ _=>trivial));obtain⟨al,V,R⟩:=aY (ba.o.on y.o) (ax.o.new y.o) (aE S.o y.o);have bc:lh.length<=1000000:=qA ag.o;go_wp2_with (at_builtin;refine cC Ck dP rfl (.tmp 39) (.tmp 41) rfl v' lh rfl F.o m.heap.size 1 _ _ _ a rfl ao.o ⟨rfl,af.o⟩ bc qo (by rw[World.size_alloc];omega) ?_;intro l' bb A' c' w9 hG G aq;have W:=aA hG;have ak:=aA (al.o.grown F.o G ar);have ae:=aA (V.o.grown ai.o F.o G);have a8:=aA (jX.trans ai.o (MS aq) (Fr.size V.o));have aa:=aA ((G.block _ (aD R.o) (fun e=>d.o _ e.symm rfl)).trans R.o);clear hG G aq y ao F al V R J K M N O P Q)
 have ah:=aA (a6.o (decide ((32:Int)<(l'.length:Int))) _ an.o _ ak.o);refine ah.o.mono ?_;rintro e wz ⟨rfl,z,c⟩;have i:=aA z;have ay:=aA (ae.o.aC8 c);have a1:=aA (jY.stays W.o c (fun b Z=>by have h1:=(aM.lt W.o b Z).1;show b≠g;omega));have ab:=qS aa c qo;clear z c ah W ak ae aa;rw[show (32:Int)=((32:Nat):Int) from rfl,MQ] at i;obtain⟨⟨J,K,M,N,O,P,Q⟩,_⟩:=bJ ab.o;have bm:=aD ab.o;have be:=MT a.op 2;go_wp2;go_region
 all_goals
  go_wp2;go_ret2
  rw[<-bb.o];exact⟨_,rfl,⟨a1.o.drew,i.o.drew,ay.o.drew,a8.o⟩⟩
theorem Hr{L:List Tok}{f:Nat}(T:Toks L)(hE:EV L f)(l:List No)(p:PS)(g B:Nat)(v:Value)(w:World)(h:xC L (f+1) g B v w l p)(K:cL L (str "(") p=false)(M:(aU L p).aCR=1)(C:(aU L p).str≠str "true")(z:(aU L p).str≠str "false"):
 Calls prog 248 #[.pointer (some ⟨g,0,none⟩),v] w (AD L g B v w (eW L (f+1) l p).1.1 (eW L (f+1) l p).1.2 (eW L (f+1) l p).2):=by
 have Z:=T.len;have ah:=h.low;have aj:=h.base;have j:=aA h;have hp:=h.at_;have H:=aA (fun w h=>gH hp Z g w h);have I:=aA (fun w h=>eM T (str "(") hp g w h);have ae:=aA (fun b (q:PS) (hq:q.at_<L.length) w h=>kQ b hq Z g w h);have af:=aA (show ∀x,v.ownBlock=some x->x<w.heap.size from fun x N=>(aM.lt h.row x N).2);have Q:=aA (DE T f l hp);have W:=aA (wF T f l hp).lt;rw[tZ];unfold AD;dsimp only;rw[jW K,JQ] at I;have F:=aA (fun w h=>vY T hp g w h);have J:gQ L f l p=((l,⟨2,bD,(cD L p).1⟩),(cD L p).2):=by unfold gQ;rw[iN (by rw[K];decide),iP ⟨M,C,z⟩]
 have R:Hid ((gQ L f l p).1.1.length<=100000):=aA (by rw[J];have:=h.len;show l.length<=100000;omega);rw[J] at Q W R ⊢;unfold oF at F;unfold iA at H;rw[CF] at C;rw[yK] at z;have d1:((aU L p).aCR==1)=true:=bQ.2 M;obtain⟨d2,e2⟩:=fH (aU L p).str [116,114,117,101] C;obtain⟨d3,e3⟩:=fH (aU L p).str [102,97,108,115,101] z;clear h hE K J M C z;generalize aU L p=t at *;generalize cD L p=r at *;dsimp only at *;go_enter func248,ntmps248;go_wp2_with fail;refine(H.o _ (j.o.pw.alloc)).mono ?_;rintro e w1 ⟨rfl,m⟩;have d:=aA (aE (aK _ _ _ rfl) m:w1.heap[w.heap.size]? =some (.cells #[.int .i64 0,.int .i64 0,.int .i64 0,.string ⟨#[]⟩,.int .i64 0,.string ⟨#[]⟩,.bool false] 294 (0,0)));have o:=aA (((Fr.refl g v w).new (aB _ _)).new m);have s:=aA ((j.o.row.stays (aJ (aB _ _) (ok:=fun _=>True)) (fun _ _=>trivial)).stays (aJ m (ok:=fun _=>True)) (fun _ _=>trivial));have HP:=aA ((j.o.pw.alloc).on m);have al:=aD d.o;clear m H;go_wp2_with fail;refine(I.o _ (HP.o.alloc)).mono ?_;rintro e w2 ⟨rfl,h_,k_⟩;obtain⟨d,BT,o⟩:=aY (aF (aE d.o (aB _ _)) k_ qo) (aF (aK _ _ _ rfl) k_ qo:w2.heap[w1.heap.size]? =some (.cells (oB t) 146 (0,0))) ((o.o.new (aB _ _)).aC8 k_);have s:=aA ((s.o.stays (aJ (aB _ _) (ok:=fun _=>True)) (fun _ _=>trivial)).stays k_ (fun b hb=>by have h1:=(aM.lt j.o.row b hb).1;show b≠g;omega));have HP:=aA h_;have an:=aD d.o;have ao:=aD BT.o;have ak:=HP.o.lt;clear h_ k_ I;obtain⟨⟨t0,t1,t2,t3⟩,_⟩:=nI BT.o;go_wp2_with fail;refine(F.o _ HP.o).mono ?_;rintro e w3 ⟨rfl,h_,k_⟩;have n:=qS d k_ qo;have O:=aA (o.o.aC8 k_)
 have P:=aA (s.o.stays k_ (fun b hb=>by have h1:=(aM.lt j.o.row b hb).1;show b≠g;omega));have U:=aA h_;have S:Hid (jX v v w):=aA (jX.refl v w);have a:Hid (∀x,v.ownBlock=some x->x≠w.heap.size):=aA (fun x N=>qA (af.o x N));have aq:=aD n.o;clear h_ k_ F d BT o s HP t0 t1 t2 t3;obtain⟨⟨x0,x1,x2,x3,x4,x5,x6⟩,f0,f1,f2,f3,f4,f5,f6⟩:=bJ n.o;go_upto_region 8 with (fail)
 obtain⟨c,i⟩:=xE ((((((((w3.setCell ⟨w.heap.size,0,none⟩ (.int .i64 2)).setCell ⟨w.heap.size,1,none⟩ (.int .i64 0)).setCell ⟨w.heap.size,2,none⟩ (.int .i64 0)).setCell ⟨w.heap.size,3,none⟩ (.string ⟨#[]⟩)).setCell ⟨w.heap.size,4,none⟩ (.int .i64 r.1.cat)).setCell ⟨w.heap.size,5,none⟩ (.string r.1.name)).setCell ⟨w.heap.size,6,none⟩ (.bool r.1.aDq)));rw[<-i];have ad:Hid (jY c B v l):=aA (by rw[i];exact(((((((P.o.set a.o).set a.o).set a.o).set a.o).set a.o).set a.o).set a.o));have ag:Hid (PW L c g r.2):=aA (by rw[i];exact(((((((U.o.set qo).set qo).set qo).set qo).set qo).set qo).set qo));have ab:Hid (Fr g v w c):=aA (by rw[i];exact(((((((O.o.set qo).set qo).set qo).set qo).set qo).set qo).set qo));have E:Hid (c.heap[w.heap.size]? =some (.cells #[.int .i64 2,.int .i64 0,.int .i64 0,.string ⟨#[]⟩,.int .i64 r.1.cat,.string r.1.name,.bool r.1.aDq] 294 (0,0))):=aA (by rw[i];exact aG (aG (aG (aG (aG (aG (aG n.o 0 _) 1 _) 2 _) 3 _) 4 _) 5 _) 6 _);clear i x0 x1 x2 x3 x4 x5 x6 f0 f1 f2 f3 f4 f5 f6 n O P U;obtain⟨⟨x0,x1,x2,x3,x4,x5,x6⟩,_⟩:=bJ E.o;have ar:=aD E.o;have k:=aA (aB c (.cells #[.int .i64 2,.int .i64 0,.int .i64 0,.string ⟨#[]⟩,.int .i64 r.1.cat,.string r.1.name,.bool r.1.aDq] 294));have X:=aA (aK c (.cells #[.int .i64 2,.int .i64 0,.int .i64 0,.string ⟨#[]⟩,.int .i64 r.1.cat,.string r.1.name,.bool r.1.aDq] 294) _ rfl);have y:=aA (jY.stays ad.o (aJ k.o (ok:=fun _=>True)) (fun _ _=>trivial));obtain⟨V,G,D⟩:=aY (ag.o.on k.o) (ab.o.new k.o) (aE E.o k.o);have ai:l.length<=1000000:=qA R.o
 go_wp2_with (at_builtin;refine cC Ck dP rfl (.tmp 39) (.tmp 41) rfl v l rfl y.o c.heap.size 1 _ _ _ (⟨2,bD,r.1⟩:No) rfl X.o ⟨rfl,Q.o⟩ ai qo (by rw[World.size_alloc];omega) ?_;intro l' hl' A' c' w9 Y A aa;have HG4:=aA Y;have HP4:=aA (V.o.grown y.o A ah);have HF4:=aA (G.o.grown S.o y.o A);have HO4:=aA (jX.trans S.o (MS aa) (Fr.size G.o));have BN4:=aA ((A.block _ (aD D.o) (fun e=>a.o _ e.symm rfl)).trans D.o);clear Y A aa k X y V G D x0 x1 x2 x3 x4 x5 x6)
 have HLM2:=aA (ae.o (decide ((32:Int)<(l'.length:Int))) _ W.o _ HP4.o);exact QAX
theorem Oe{L:List Tok}{f:Nat}(T:Toks L)(hE:EV L f)(l:List No)(p:PS)(g B:Nat)(v:Value)(w:World)(h:xC L (f+1) g B v w l p)(M:cL L (str "(") p=false)(N:¬((aU L p).aCR=1/\(aU L p).str≠str "true"/\(aU L p).str≠str "false")):
 Calls prog 248 #[.pointer (some ⟨g,0,none⟩),v] w (AD L g B v w (eW L (f+1) l p).1.1 (eW L (f+1) l p).1.2 (eW L (f+1) l p).2):=by
 have hL:=T.len;have ai:=h.low;have ak:=h.base;have m:=aA h;have hp:=h.at_;have I:=aA (fun w h=>gH hp hL g w h);have J:=aA (fun w h=>eM T (str "(") hp g w h);have af:=aA (fun b (q:PS) (hq:q.at_<L.length) w h=>kQ b hq hL g w h);have ag:=aA (show ∀x,v.ownBlock=some x->x<w.heap.size from fun x O=>(aM.lt h.row x O).2);have R:=aA (DE T f l hp);have X:=aA (wF T f l hp).lt;rw[tZ];unfold AD;dsimp only;rw[jW M,JQ] at J;have G:=aA (fun w h=>rV T hp g w h);have K:gQ L f l p=((l,⟨1,(dA L p).1,uK⟩),(dA L p).2):=by unfold gQ;rw[iN (by rw[M];decide),iN N]
 have S:Hid ((gQ L f l p).1.1.length<=100000):=aA (by rw[K];have:=h.len;show l.length<=100000;omega);rw[K] at R X S ⊢;unfold dD at G;unfold iA at I;have ab:¬(aU L p).aCR=1\/((aU L p).aCR=1/\(aU L p).str=str "true")\/((aU L p).aCR=1/\(aU L p).str≠str "true"/\(aU L p).str=str "false"):=by
  by_cases a:(aU L p).aCR=1
  .by_cases c:(aU L p).str=str "true"
   .exact .inr (.inl ⟨a,c⟩)
   .by_cases s:(aU L p).str=str "false"
    .exact .inr (.inr ⟨a,c,s⟩)
    .exact absurd ⟨a,c,s⟩ N
  .exact .inl a
 rw[CF,yK] at ab;clear h hE M K N;generalize aU L p=t at *;generalize dA L p=r at *;dsimp only at *
 rcases ab with a|⟨a,c⟩|⟨a,c,s⟩
 all_goals
  first
   |(have d1:(t.aCR==1)=false:=bN.2 a;clear a)
   |(have d1:(t.aCR==1)=true:=bQ.2 a;obtain⟨d2,e2⟩:=fH t.str [116,114,117,101] c;obtain⟨d3,e3⟩:=fO t.str [102,97,108,115,101] s;clear a c s)
   |(have d1:(t.aCR==1)=true:=bQ.2 a;obtain⟨d2,e2⟩:=fO t.str [116,114,117,101] c;clear a c)
  go_enter func248,ntmps248;go_wp2_with fail;refine(I.o _ (m.o.pw.alloc)).mono ?_;rintro e w1 ⟨rfl,o⟩;have j:=aA (aE (aK _ _ _ rfl) o:w1.heap[w.heap.size]? =some (.cells #[.int .i64 0,.int .i64 0,.int .i64 0,.string ⟨#[]⟩,.int .i64 0,.string ⟨#[]⟩,.bool false] 294 (0,0)));have z:=aA (((Fr.refl g v w).new (aB _ _)).new o);have A:=aA ((m.o.row.stays (aJ (aB _ _) (ok:=fun _=>True)) (fun _ _=>trivial)).stays (aJ o (ok:=fun _=>True)) (fun _ _=>trivial));have HP:=aA ((m.o.pw.alloc).on o);have an:=aD j.o;clear o I;go_wp2_with fail;refine(J.o _ (HP.o.alloc)).mono ?_;rintro e w2 ⟨rfl,h_,k_⟩;obtain⟨j,BT,z⟩:=aY (aF (aE j.o (aB _ _)) k_ qo) (aF (aK _ _ _ rfl) k_ qo:w2.heap[w1.heap.size]? =some (.cells (oB t) 146 (0,0))) ((z.o.new (aB _ _)).aC8 k_);have A:=aA ((A.o.stays (aJ (aB _ _) (ok:=fun _=>True)) (fun _ _=>trivial)).stays k_ (fun b hb=>by have h1:=(aM.lt m.o.row b hb).1;show b≠g;omega));have HP:=aA h_;have ao:=aD j.o;have aq:=aD BT.o;have al:=HP.o.lt;clear h_ k_ J;obtain⟨⟨t0,t1,t2,t3⟩,_⟩:=nI BT.o;go_wp2_with fail;refine(G.o _ HP.o).mono ?_;rintro e w3 ⟨rfl,h_,k_⟩;have y:=qS j k_ qo;have P:=aA (z.o.aC8 k_);have Q:=aA (A.o.stays k_ (fun b hb=>by have h1:=(aM.lt m.o.row b hb).1;show b≠g;omega));have V:=aA h_;have U:Hid (jX v v w):=aA (jX.refl v w);have d:Hid (∀x,v.ownBlock=some x->x≠w.heap.size):=aA (fun x O=>qA (ag.o x O));have ar:=aD y.o;clear h_ k_ G j BT z A HP t0 t1 t2 t3;obtain⟨⟨x0,x1,x2,x3,x4,x5,x6⟩,f0,f1,f2,f3,f4,f5,f6⟩:=bJ y.o;go_upto_region 8 with (fail)
  obtain⟨i,k⟩:=xE ((((((((w3.setCell ⟨w.heap.size,0,none⟩ (.int .i64 1)).setCell ⟨w.heap.size,1,none⟩ (.int .i64 r.1.1)).setCell ⟨w.heap.size,2,none⟩ (.int .i64 r.1.2.1)).setCell ⟨w.heap.size,3,none⟩ (.string r.1.2.2)).setCell ⟨w.heap.size,4,none⟩ (.int .i64 0)).setCell ⟨w.heap.size,5,none⟩ (.string ⟨#[]⟩)).setCell ⟨w.heap.size,6,none⟩ (.bool false)));rw[<-k];have ae:Hid (jY i B v l):=aA (by rw[k];exact(((((((Q.o.set d.o).set d.o).set d.o).set d.o).set d.o).set d.o).set d.o));have ah:Hid (PW L i g r.2):=aA (by rw[k];exact(((((((V.o.set qo).set qo).set qo).set qo).set qo).set qo).set qo));have ad:Hid (Fr g v w i):=aA (by rw[k];exact(((((((P.o.set qo).set qo).set qo).set qo).set qo).set qo).set qo));have F:Hid (i.heap[w.heap.size]? =some (.cells #[.int .i64 1,.int .i64 r.1.1,.int .i64 r.1.2.1,.string r.1.2.2,.int .i64 0,.string ⟨#[]⟩,.bool false] 294 (0,0))):=aA (by rw[k];exact aG (aG (aG (aG (aG (aG (aG y.o 0 _) 1 _) 2 _) 3 _) 4 _) 5 _) 6 _);clear k x0 x1 x2 x3 x4 x5 x6 f0 f1 f2 f3 f4 f5 f6 y P Q V;obtain⟨⟨x0,x1,x2,x3,x4,x5,x6⟩,_⟩:=bJ F.o;have au:=aD F.o;have n:=aA (aB i (.cells #[.int .i64 1,.int .i64 r.1.1,.int .i64 r.1.2.1,.string r.1.2.2,.int .i64 0,.string ⟨#[]⟩,.bool false] 294));have Y:=aA (aK i (.cells #[.int .i64 1,.int .i64 r.1.1,.int .i64 r.1.2.1,.string r.1.2.2,.int .i64 0,.string ⟨#[]⟩,.bool false] 294) _ rfl);have C:=aA (jY.stays ae.o (aJ n.o (ok:=fun _=>True)) (fun _ _=>trivial));obtain⟨W,H,E⟩:=aY (ah.o.on n.o) (ad.o.new n.o) (aE F.o n.o);have aj:l.length<=1000000:=qA S.o
  go_wp2_with (at_builtin;refine cC Ck dP rfl (.tmp 39) (.tmp 41) rfl v l rfl C.o i.heap.size 1 _ _ _ (⟨1,r.1,uK⟩:No) rfl Y.o ⟨rfl,R.o⟩ aj qo (by rw[World.size_alloc];omega) ?_;intro l' hl' A' c' w9 Z D aa;have HG4:=aA Z;have HP4:=aA (W.o.grown C.o D ai);have HF4:=aA (H.o.grown U.o C.o D);have HO4:=aA (jX.trans U.o (MS aa) (Fr.size H.o));have BN4:=aA ((D.block _ (aD E.o) (fun e=>d.o _ e.symm rfl)).trans E.o);clear Z D aa n Y C W H E x0 x1 x2 x3 x4 x5 x6)
  have HLM2:=aA (af.o (decide ((32:Int)<(l'.length:Int))) _ X.o _ HP4.o);exact QAX
theorem AE{L:List Tok}(T:Toks L):∀f,EV L f
 |0=>fun l p g B v w h=>absurd h.fuel (qA h.at_)
 |f+1=>fun l p g B v w h=>by
  cases b:cL L (str "(") p
  .by_cases a:(aU L p).aCR=1/\(aU L p).str≠str "true"/\(aU L p).str≠str "false"
   .exact Hr T (AE T f) l p g B v w h b a.1 a.2.1 a.2.2
   .exact Oe T (AE T f) l p g B v w h b a
  .exact Od T (AE T f) l p g B v w h b
end Go.Proofs.YtbinmcabjnoliaaGreatDoor
