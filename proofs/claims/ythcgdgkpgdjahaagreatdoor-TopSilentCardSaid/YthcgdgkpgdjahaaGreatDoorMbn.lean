/- Lemmas. -/
import Derived.Test.YthcgdgkpgdjahaaGreatDoorMbe
import Derived.Test.YthcgdgkpgdjahaaGreatDoorMbj
import Derived.Test.YthcgdgkpgdjahaaGreatDoorMbm
import Derived.Lib.ItoaNum
namespace Go.Proofs.YthcgdgkpgdjahaaGreatDoor
open Go.RowKit
set_option linter.unusedVariables false
set_option linter.unusedSimpArgs false
set_option maxHeartbeats 16000000
open _root_.Go.Proofs.Tryz
set_option maxRecDepth 20000
theorem TF:(prog.info? 62).map (·.size)=some 13:=by kernel_rfl
theorem Vd:(prog.info? 37).map (·.size)=some 8:=by kernel_rfl
theorem Ve:(prog.info? 68).map (·.size)=some 16:=by kernel_rfl
theorem aBe:(prog.info? 96).map (·.size)=some 2:=by kernel_rfl
def FX(ok:nP)(G:Sto×Rpl×Option Deci×Int)(w:World)(e:Ending)(w':World):Prop:=∃(vc vr vn vo vt vu vk vb vd:Value),e=.returned (.tuple #[.agg (aX G.1 vc vr vn vo vt vu vk vb),.agg (eH G.2.1),vd,.int .i64 G.2.2.2])/\fM w' (fun b=>(ok b/\b<w.heap.size)\/w.heap.size<=b) G.1 vc vr vn vo vt vu vk vb/\(match G.2.2.1 with |none=>vd=.agg pJ|some d=>∃a,vd=.agg (nD d a)/\aH kE w' (fun b=>w.heap.size<=b) a d.aD4)/\Below w.heap.size w w'
def XL(w:World)(vs d:Value)(G:Sto×Rpl×Option Deci×Int)(s:Sto)(cs c b:Array Value)(a:Act)(w':World):Prop:=
 ∃(e at_:Int) (u:Nat->Value),a={tmps:=#[vs,d,.pointer (some ⟨w.heap.size,0,none⟩),.pointer (some ⟨w.heap.size+1,0,none⟩),.pointer (some ⟨w.heap.size+1+1,0,none⟩),.pointer (some ⟨w.heap.size+1+1+1,0,none⟩),.pointer (some ⟨w.heap.size+1+1+1+1,0,none⟩),u 7,u 8,u 9,u 10,u 11,.int .i64 e,.int .i64 at_,u 14,u 15,u 16,u 17,u 18,u 19,u 20,u 21,u 22,u 23,u 24,u 25,u 26,u 27,u 28,u 29,u 30,u 31,u 32,u 33,u 34,u 35,u 36,u 37,u 38,u 39,u 40,u 41,u 42,u 43,u 44,u 45,u 46,u 47,u 48,u 49,u 50,u 51,u 52,u 53,u 54,u 55,u 56,u 57,u 58,u 59,u 60,u 61,u 62,u 63,u 64,u 65,u 66,u 67,u 68,u 69,u 70,u 71,u 72,u 73,u 74,u 75,u 76,u 77,u 78,u 79,u 80,u 81,u 82,u 83,u 84,u 85,u 86,u 87,u 88,u 89,u 90,u 91,u 92,u 93,u 94,u 95,u 96,u 97,u 98,u 99,u 100,u 101,u 102,u 103,u 104,u 105,u 106,u 107,u 108,u 109,u 110,u 111,u 112,u 113,u 114,u 115,u 116,u 117,u 118,u 119,u 120,u 121,u 122,u 123,u 124,u 125,u 126,u 127,u 128,u 129,u 130],defers:=[]}/\
  Hid (G=(s,{rC with err:=e,at_:=at_},none,e))/\Hid (w'.heap[w.heap.size]? =some (.cells cs 62 (0,0)))/\Hid (w'.heap[w.heap.size+1+1]? =some (.cells c 62 (0,0)))/\Hid (w'.heap[w.heap.size+1+1+1]? =some (.cells #[.int .i64 0,.complex .f64 0 0,.bool false,.int .i64 0,.int .i64 0,.string ⟨#[]⟩,.bool false,.int .i64 0] 37 (0,0)))/\Hid (w'.heap[w.heap.size+1+1+1+1]? =some (.cells b 68 (0,0)))/\Hid (Below w.heap.size w w')
theorem Nd(g:List Gv)(p:Po):Cm.QP (rA g p).1.1/\(rA g p).1.2.length<=600000:=by
 unfold rA;split
 .exact⟨⟨qe,qe⟩,qe⟩
 .rename_i h;exact⟨zG (vC g 4 p),lT (yJ g 4 p (MJ (by simpa using h))) (Xt 4 qe)⟩
theorem vR(g:List Gv)(p:Po):Cm.QP (gN g p).1.1/\(gN g p).1.2.length<=600000:=by
 unfold gN;split
 .exact⟨⟨qe,qe⟩,qe⟩
 .exact Nd g _
def lH(w:World)(cs os t y:Array Value)(z:Option (Array Value))(w':World):Prop:=w'.heap[w.heap.size]? =some (.cells cs 62 (0,0))/\w'.heap[w.heap.size+1]? =some (.cells os 32 (0,0))/\w'.heap[w.heap.size+1+1]? =some (.cells #[.int .i64 0,.slice none 0 0,.slice none 0 0,.slice none 0 0,.slice none 0 0,.string ⟨#[]⟩,.bool false,.int .i64 0,.slice none 0 0,.slice none 0 0,.slice none 0 0,.slice none 0 0,.int .i64 0] 62 (0,0))/\w'.heap[w.heap.size+1+1+1]? =some (.cells #[.int .i64 0,.complex .f64 0 0,.bool false,.int .i64 0,.int .i64 0,.string ⟨#[]⟩,.bool false,.int .i64 0] 37 (0,0))/\w'.heap[w.heap.size+1+1+1+1]? =some (.cells pJ 68 (0,0))/\w'.heap[w.heap.size+1+1+1+1+1]? =some (.cells t 96 (0,0))/\w'.heap[w.heap.size+1+1+1+1+1+1]? =some (.cells y 37 (0,0))/\Below w.heap.size w w'/\∀zz,z=some zz->w'.heap[w.heap.size+1+1+1+1+1+1+1]? =some (.cells zz 62 (0,0))
section
variable {w w1 w2:World} {cs os t y:Array Value} {z:Option (Array Value)}
theorem lH.stays(h:lH w cs os t y z w1){q:nP}(c:aN q w1 w2)(a:∀b,b<=w.heap.size+7->q b):lH w cs os t y z w2:=by
 obtain⟨h0,h1,h2,h3,h4,h5,h6,f,g⟩:=h;exact⟨aF h0 c (a _ qo),aF h1 c (a _ qo),aF h2 c (a _ qo),aF h3 c (a _ qo),aF h4 c (a _ qo),aF h5 c (a _ qo),aF h6 c (a _ qo),((aJ (ok:=fun b=>b<w.heap.size) f).trans (c.mono (fun b _ d=>a b qo))).below (fun k d=>⟨d,d⟩),fun zz e=>aF (g zz e) c (a _ qo)⟩
theorem lH.noz(h:lH w cs os t y z w1):lH w cs os t y none w1:=⟨h.1,h.2.1,h.2.2.1,h.2.2.2.1,h.2.2.2.2.1,h.2.2.2.2.2.1,h.2.2.2.2.2.2.1,h.2.2.2.2.2.2.2.1,fun _ e=>(by cases e)⟩
theorem lH.off(h:lH w cs os t y none w1){q:nP}(c:aN q w1 w2)(a:∀b,b<=w.heap.size+6->q b):lH w cs os t y none w2:=by
 obtain⟨h0,h1,h2,h3,h4,h5,h6,f,_⟩:=h;exact⟨aF h0 c (a _ qo),aF h1 c (a _ qo),aF h2 c (a _ qo),aF h3 c (a _ qo),aF h4 c (a _ qo),aF h5 c (a _ qo),aF h6 c (a _ qo),((aJ (ok:=fun b=>b<w.heap.size) f).trans (c.mono (fun b _ d=>a b qo))).below (fun k d=>⟨d,d⟩),fun _ e=>(by cases e)⟩
theorem lH.on(h:lH w cs os t y z w1)(a:Below w1.heap.size w1 w2):lH w cs os t y z w2:=h.stays (aJ (ok:=fun _=>True) a) (fun _ _=>trivial)
theorem lH.aE9(h:lH w cs os t y z w1)(c:aN (fun b=>b≠w.heap.size+1+1+1+1+1) w1 w2){t2:Array Value}(g:w2.heap[w.heap.size+1+1+1+1+1]? =some (.cells t2 96 (0,0))):lH w cs os t2 y z w2:=by
 obtain⟨h0,h1,h2,h3,h4,h5,h6,f,i⟩:=h;have a:∀{b},b≠w.heap.size+5->b≠w.heap.size+1+1+1+1+1:=fun h=>h
 exact⟨aF h0 c (a qo),aF h1 c (a qo),aF h2 c (a qo),aF h3 c (a qo),aF h4 c (a qo),g,aF h6 c (a qo),((aJ (ok:=fun b=>b<w.heap.size) f).trans (c.mono (fun b _ d=>a qo))).below (fun k d=>⟨d,d⟩),fun zz e=>aF (i zz e) c (a qo)⟩
theorem lH.aET(h:lH w cs os t y z w1)(c:aN (fun b=>b≠w.heap.size+1+1+1+1+1+1) w1 w2){f:Array Value}(i:w2.heap[w.heap.size+1+1+1+1+1+1]? =some (.cells f 37 (0,0))):lH w cs os t f z w2:=by
 obtain⟨h0,h1,h2,h3,h4,h5,h6,g,j⟩:=h;have a:∀{b},b≠w.heap.size+6->b≠w.heap.size+1+1+1+1+1+1:=fun h=>h
 exact⟨aF h0 c (a qo),aF h1 c (a qo),aF h2 c (a qo),aF h3 c (a qo),aF h4 c (a qo),aF h5 c (a qo),i,((aJ (ok:=fun b=>b<w.heap.size) g).trans (c.mono (fun b _ d=>a qo))).below (fun k d=>⟨d,d⟩),fun zz e=>aF (j zz e) c (a qo)⟩
end
def oV(s:Sto)(o:Op):Int×Int:=if dJ s o=0/\o.aDN=7 then (fH o.text).2 else (dJ s o,0)
theorem MO{s:Sto}{o:Op}(h:(oV s o).1≠0):bO s o=(s,{rC with err:=(oV s o).1,at_:=(oV s o).2},none,(oV s o).1):=iP h
theorem MP{s:Sto}{o:Op}(h:(oV s o).1=0)(h2:(gN (qM s o) s.aDP).2≠0):bO s o=(s,{rC with err:=(gN (qM s o) s.aDP).2,at_:=(oV s o).2},none,(gN (qM s o) s.aDP).2):=(iN (fun e=>e h)).trans (iP h2)
abbrev RN:Array Value:=#[.int .i64 0,.complex .f64 0 0,.bool false,.int .i64 0,.int .i64 0,.string ⟨#[]⟩,.bool false,.int .i64 0]
theorem KD{w:World}{vs d:Value}{G:Sto×Rpl×Option Deci×Int}{s:Sto}{cs c b:Array Value}{a:Act}{w':World}(e at_:Int)(ha:a={tmps:=#[vs,d,.pointer (some ⟨w.heap.size,0,none⟩),.pointer (some ⟨w.heap.size+1,0,none⟩),.pointer (some ⟨w.heap.size+1+1,0,none⟩),.pointer (some ⟨w.heap.size+1+1+1,0,none⟩),.pointer (some ⟨w.heap.size+1+1+1+1,0,none⟩),gT a 7,gT a 8,gT a 9,gT a 10,gT a 11,.int .i64 e,.int .i64 at_,gT a 14,gT a 15,gT a 16,gT a 17,gT a 18,gT a 19,gT a 20,gT a 21,gT a 22,gT a 23,gT a 24,gT a 25,gT a 26,gT a 27,gT a 28,gT a 29,gT a 30,gT a 31,gT a 32,gT a 33,gT a 34,gT a 35,gT a 36,gT a 37,gT a 38,gT a 39,gT a 40,gT a 41,gT a 42,gT a 43,gT a 44,gT a 45,gT a 46,gT a 47,gT a 48,gT a 49,gT a 50,gT a 51,gT a 52,gT a 53,gT a 54,gT a 55,gT a 56,gT a 57,gT a 58,gT a 59,gT a 60,gT a 61,gT a 62,gT a 63,gT a 64,gT a 65,gT a 66,gT a 67,gT a 68,gT a 69,gT a 70,gT a 71,gT a 72,gT a 73,gT a 74,gT a 75,gT a 76,gT a 77,gT a 78,gT a 79,gT a 80,gT a 81,gT a 82,gT a 83,gT a 84,gT a 85,gT a 86,gT a 87,gT a 88,gT a 89,gT a 90,gT a 91,gT a 92,gT a 93,gT a 94,gT a 95,gT a 96,gT a 97,gT a 98,gT a 99,gT a 100,gT a 101,gT a 102,gT a 103,gT a 104,gT a 105,gT a 106,gT a 107,gT a 108,gT a 109,gT a 110,gT a 111,gT a 112,gT a 113,gT a 114,gT a 115,gT a 116,gT a 117,gT a 118,gT a 119,gT a 120,gT a 121,gT a 122,gT a 123,gT a 124,gT a 125,gT a 126,gT a 127,gT a 128,gT a 129,gT a 130],defers:=[]})
 (h:Hid (G=(s,{rC with err:=e,at_:=at_},none,e))/\Hid (w'.heap[w.heap.size]? =some (.cells cs 62 (0,0)))/\Hid (w'.heap[w.heap.size+1+1]? =some (.cells c 62 (0,0)))/\Hid (w'.heap[w.heap.size+1+1+1]? =some (.cells RN 37 (0,0)))/\Hid (w'.heap[w.heap.size+1+1+1+1]? =some (.cells b 68 (0,0)))/\Hid (Below w.heap.size w w')):XL w vs d G s cs c b a w':=
 ⟨e,at_,fun n=>a.tmps.getD n undef,ha,h⟩
def oI(s:Sto)(o:Op)(m:Mk)(l:List Ob)(b a:Bool):Rpl:=
 let hidden:=a&&(decide (o.aDN=2)&&l.any (fun x=>decide (x.aDN=2)&&decide (x.arg=o.aD7)))
 let val:=if a&&(decide (o.aDN=2)&& !hidden) then ((dU s o.aDU).map (fun c=>eB c o.aD7)).getD aY else aY
 ⟨if a then 0 else 12,m,b,val,hidden,0⟩
theorem MQ{s:Sto}{o:Op}{R:(Mk×List Ob)×Int}(hp:(oV s o).1=0)(f:R=gN (qM s o) s.aDP)(h2:R.2=0){a:Bool}(j:a=jM s o R.1.1){d b:Bool}(g:decide (R.1.1=(4,0))=d)(i:b=(d||a)){c:Sto}(k:c=if a=true then gG s o o.aEc else s){s2:Sto}(n:s2=R.1.2.foldl (cU o b) (if b=true then cT c o else c)):
 bO s o=if kF s2=true then (s,{rC with err:=6,at_:=(oV s o).2},none,6) else (s2,oI s o R.1.1 R.1.2 a b,some ⟨o,s.aD0,R.1.1,a,R.1.2⟩,0):=by
 rw[AE];refine(iN (fun e=>e hp)).trans ?_;unfold Jb;rw[<-f];obtain⟨⟨m,l⟩,e⟩:=R;dsimp only at *;rw[iN (fun e=>e h2),<-j,g,<-i,<-k,<-n];rfl
theorem aAy(s:Sto)(o:Op)(m:Mk)(l:List Ob)(a:Bool):eH (oI s o m l a false)=#[.int .i64 12,.complex .f64 (Cm.qb m.1) (Cm.qb m.2),.bool a,.int .i64 0,.int .i64 0,.string ⟨#[]⟩,.bool false,.int .i64 0]:=rfl
theorem Nf(s:Sto)(o:Op)(m:Mk)(l:List Ob)(a:Bool)(h:o.aDN≠2):eH (oI s o m l a true)=#[.int .i64 0,.complex .f64 (Cm.qb m.1) (Cm.qb m.2),.bool a,.int .i64 0,.int .i64 0,.string ⟨#[]⟩,.bool false,.int .i64 0]:=by
 unfold oI eH;simp only[dF h,Bool.false_and,Bool.and_false,Bool.false_eq_true,if_false,if_true];rfl
theorem Xw(s:Sto)(o:Op)(m:Mk)(l:List Ob)(a:Bool)(h:o.aDN=2)(b:l.any (fun x=>decide (x.aDN=2)&&decide (x.arg=o.aD7))=true):eH (oI s o m l a true)=#[.int .i64 0,.complex .f64 (Cm.qb m.1) (Cm.qb m.2),.bool a,.int .i64 0,.int .i64 0,.string ⟨#[]⟩,.bool true,.int .i64 0]:=by
 unfold oI eH;simp only[dX h,b,Bool.true_and,Bool.not_true,Bool.false_eq_true,if_false,if_true];rfl
theorem Xx(s:Sto)(o:Op)(m:Mk)(l:List Ob)(a:Bool)(h:o.aDN=2)(b:l.any (fun x=>decide (x.aDN=2)&&decide (x.arg=o.aD7))=false){v:V3}(d:v=((dU s o.aDU).map (fun c=>eB c o.aD7)).getD aY):eH (oI s o m l a true)=#[.int .i64 0,.complex .f64 (Cm.qb m.1) (Cm.qb m.2),.bool a,.int .i64 v.1,.int .i64 v.2.1,.string v.2.2,.bool false,.int .i64 0]:=by
 unfold oI eH;simp only[dX h,b,Bool.true_and,Bool.not_false,if_true,d]
def mI(ok:nP)(w:World)(cs os t y:Array Value)(vd:Value)(l:List Ob)(s1:Sto)(w':World):Prop:=
 ∃(K:nP) (base:Nat),(∀b,K b->(ok b/\b<w.heap.size)\/w.heap.size+8<=b)/\w.heap.size+8<=base/\iE K base (w.heap.size+1+1+1+1+1+1+1) w' w' s1/\lH w cs os t y none w'/\aH kE w' (fun b=>w.heap.size+8<=b/\b<base) vd l
section
variable {ok:nP} {w wa w':World} {cs os t y:Array Value} {vd:Value} {l:List Ob} {s1:Sto}
theorem mI.aEo(h:mI ok w cs os t y vd l s1 wa):lH w cs os t y none wa:=by obtain⟨_,_,_,_,_,h,_⟩:=h;exact h
theorem mI.obs(h:mI ok w cs os t y vd l s1 wa):aH kE wa (fun b=>w.heap.size+8<=b) vd l:=by obtain⟨_,_,_,_,_,_,h⟩:=h;exact h.more aO fun b a=>a.1
theorem mI.on(h:mI ok w cs os t y vd l s1 wa)(a:Below wa.heap.size wa w'):mI ok w cs os t y vd l s1 w':=by
 obtain⟨K,base,h1,h2,⟨L,ro,vc,vr,vn,vo,vt,vu,vk,vb,h3,h4,_⟩,h5,h6⟩:=h;exact⟨K,base,h1,h2,⟨L,ro,vc,vr,vn,vo,vt,vu,vk,vb,aE h3 a,h4.on a,aN.refl _ _⟩,h5.on a,aH.on aO h6 a⟩
theorem mI.at(h:mI ok w cs os t y vd l s1 wa)(d:aN (fun b=>b≠w.heap.size+1+1+1+1+1+1) wa w'){e:Array Value}(f:w'.heap[w.heap.size+1+1+1+1+1+1]? =some (.cells e 37 (0,0))):mI ok w cs os t e vd l s1 w':=by
 obtain⟨K,base,h1,h2,⟨L,ro,vc,vr,vn,vo,vt,vu,vk,vb,h3,h4,_⟩,h5,h6⟩:=h;have c:∀{b},b≠w.heap.size+6->b≠w.heap.size+1+1+1+1+1+1:=fun h=>h
 exact⟨K,base,h1,h2,⟨L,ro,vc,vr,vn,vo,vt,vu,vk,vb,aF h3 d (c qo),h4.stays d (fun b a=>c (by rcases h1 b a with h|h<;>omega)) (fun b a _=>c qo),aN.refl _ _⟩,h5.aET d f,aH.aDW aO h6 (d.mono fun b _ a=>c (qA a.1))⟩
theorem bD.one{K:nP}{base:Nat}{s:Sto}{L:List Mix}{ro:Option Value}{vc vr vn vo vt vu vk vb:Value}(h:bD K base w s L ro vc vr vn vo vt vu vk vb):(aX s vc vr vn vo vt vu vk vb).all (·.oneCell')=true:=by
 obtain⟨_,_,rfl⟩:=h.aDO.slice;obtain⟨_,_,rfl⟩:=h.aDQ.slice;obtain⟨_,_,rfl⟩:=h.aDV.slice;obtain⟨_,_,rfl,_⟩:=(h.aD1.sl dB).slice;obtain⟨_,_,rfl,-⟩:=h.aDP.2.2.1.slice;obtain⟨_,_,rfl,-⟩:=h.aDP.2.2.2.1.slice;obtain⟨_,_,rfl,-⟩:=h.aDP.2.2.2.2.1.slice;obtain⟨_,_,rfl,-⟩:=h.aDP.2.2.2.2.2.slice;simp[aX,Value.oneCell']
end
theorem aBf{o:Option cB}{w:World}{e:Ending}{w':World}(h:AM o w e w')(g:∀c,o=some c->Rc c):∃c a d b,e=.returned (.tuple #[.agg #[.string c.id,.string c.aEg,.string c.aD9,a,d],.bool b])/\pD w' (fun _=>True) c a d/\(∀N,(o.map (fun c=>eB c N)).getD aY=eB c N)/\Below w.heap.size w w':=by
 rcases h with ⟨rfl,rfl,f⟩|⟨c,a,d,rfl,rfl,h⟩
 .exact⟨⟨⟨#[]⟩,⟨#[]⟩,⟨#[]⟩,[],[]⟩,_,_,_,rfl,⟨qe,qe,qe,aH.nil,aH.nil⟩,fun _=>rfl,f⟩
 .exact⟨c,a,d,_,rfl,(JV h (g c rfl)).more (fun _ _=>trivial),fun _=>rfl,h.2.2⟩
theorem Ch{n:Nat}{s:Sto}(h:kP n s)(i:Nat)(f:cB->cB)(e:∀c,(f c).log.length<=c.log.length+1):kP (n+1) (eQ s i f):=
 ⟨by rw[AY];exact Nat.le_succ_of_le h.aDO,Nat.le_succ_of_le h.aDQ,Nat.le_succ_of_le h.aDV,fun c a=>by
   rcases LO a with h1|⟨d,b,rfl⟩
   .exact Nat.le_succ_of_le (h.aEf c h1)
   .have:=h.aEf d (List.mem_of_getElem? b);have:=e d;omega⟩
theorem Ng{n:Nat}{s:Sto}(h:kP n s)(o:Op):kP (n+1) (cT s o):=by
 have h0:=h.more (Nat.le_succ n);unfold cT;dsimp only;split
 .exact h0
 split
 .refine⟨?_,h0.aDQ,h0.aDV,fun c a=> ?_⟩
  .simp only[aL,List.length_take,List.length_drop,List.length_cons,List.length_nil];have:=h.aDO;omega
  .dsimp only at a;rw[List.append_assoc,List.mem_append,List.mem_append] at a
   rcases a with h1|h1|h1
   .exact h0.aEf c (List.mem_of_mem_take h1)
   .rw[List.mem_singleton] at h1;rw[h1];show 1<=n+1;omega
   .exact h0.aEf c (List.mem_of_mem_drop h1)
 split
 .exact Ch h _ _ (fun c=>by rw[lB];unfold nA;simp)
 split
 .exact Ch h _ _ (fun c=>by unfold nA;simp)
 split
 .refine⟨h0.aDO,?_,h0.aDV,h0.aEf⟩;dsimp only;split
  .rw[List.length_set];exact h0.aDQ
  .exact h0.aDQ
 split
 .split
  .exact h0
  .exact⟨h0.aDO,h0.aDQ,h0.aDV,h0.aEf⟩
 split
 .split
  .exact⟨h0.aDO,h0.aDQ,h0.aDV,h0.aEf⟩
  .exact h0
 split
 .exact⟨h0.aDO,h0.aDQ,h0.aDV,h0.aEf⟩
 .exact h0
def XM(w:World)(cs os t y x:Array Value)(w':World):Prop:=w'.heap[w.heap.size]? =some (.cells cs 62 (0,0))/\w'.heap[w.heap.size+1]? =some (.cells os 32 (0,0))/\w'.heap[w.heap.size+1+1+1+1+1]? =some (.cells t 96 (0,0))/\w'.heap[w.heap.size+1+1+1+1+1+1]? =some (.cells y 37 (0,0))/\w'.heap[w.heap.size+1+1+1+1+1+1+1]? =some (.cells x 62 (0,0))
theorem nI{w1 w2:World}{n b i j:Nat}{O:Obj}(h:w1.heap[b]? =some O){g:Nat}(a:aN (fun b=>b≠g) w1 w2)(c:b=n+i)(d:g=n+j)(e:i≠j):w2.heap[b]? =some O:=aF h a (show b≠g by omega)
theorem XM.off{w w1 w2:World}{cs os t y x:Array Value}(h:XM w cs os t y x w1){g j:Nat}(c:aN (fun b=>b≠g) w1 w2)(a:g=w.heap.size+j)(hj:2<=j/\j<=4):XM w cs os t y x w2:=
 ⟨nI h.1 c (i:=0) rfl a qo,nI h.2.1 c (i:=1) rfl a qo,nI h.2.2.1 c (i:=5) rfl a qo,nI h.2.2.2.1 c (i:=6) rfl a qo,nI h.2.2.2.2 c (i:=7) rfl a qo⟩
theorem Nh{w w1 w2:World}(h:Below w.heap.size w w1)(c:aN (fun b=>b≠w.heap.size+2/\b≠w.heap.size+3/\b≠w.heap.size+4) w1 w2):Below w.heap.size w w2:=
 ((aJ (ok:=fun b=>b<w.heap.size) h).trans (c.mono fun b _ d=>⟨qo,qo,qo⟩)).below (B:=w.heap.size) (fun k a=>⟨a,a⟩)
theorem aBg{n b:Nat}{p:Prop}(h:(p/\b<n)\/n+8<=b):b≠n+2/\b≠n+3/\b≠n+4:=by rcases h with ⟨-,h⟩|h<;>exact⟨qo,qo,qo⟩
theorem Ss{n b base:Nat}(h:n+8<=base)(a:base<=b):b≠n+2/\b≠n+3/\b≠n+4:=⟨qo,qo,qo⟩
theorem aAz{n b:Nat}(h:n+8<=b):b≠n+2/\b≠n+3/\b≠n+4:=⟨qo,qo,qo⟩
theorem aAA{n b:Nat}(h:n+8<=b):n<=b:=qo
theorem aAB{n b base:Nat}{p:Prop}(h:n+8<=base)(a:((p/\b<n)\/n+8<=b)\/base<=b):(p/\b<n)\/n<=b:=by
 rcases a with (h1|h1)|h1
 .exact .inl h1
 .exact .inr qo
 .exact .inr qo
theorem FY{s:Sto}(h:AT s):kP 256 s:=⟨lT h.1.few qe,(AU.1 h.2).1,(AU.1 h.2).2.1,(AU.1 h.2).2.2⟩
theorem Ae{ok:nP}(s:Sto)(vc vr vn vo vt vu vk vb:Value)(o:Op)(ho:iU o)(w:World)(h:fM w ok s vc vr vn vo vt vu vk vb)(bt:iA w)(ij:AT s)(ie:s.aD1.length<=900000)(iq:0<=s.aD0/\s.aD0<=999999):
 Calls prog 15 #[.agg (aX s vc vr vn vo vt vu vk vb),eZ o] w (FX ok (bO s o) w):=by
 obtain⟨ca,cc,ra,rc,na,nc,oa,oc,ta,tc,ua,uc,ka,kc,ba,bc,rfl,-,rfl,-,rfl,-,rfl,-,rfl,-,rfl,-,rfl,-,rfl,-⟩:=h.sl;obtain⟨HS,fy,be,bx,e5,gg⟩:=hD6 h bt ij ho iq ie;obtain⟨G,hG⟩:=xE (bO s o);rw[<-hG];have dh:=aA hG;obtain⟨W0,ay⟩:=xE ((((((((w.alloc (.cells (fU s ca cc ra rc na nc oa oc ta tc ua uc ka kc ba bc) 62)).alloc (.cells (rS o) 32)).alloc (.cells xQ 62)).alloc (.cells RN 37)).alloc (.cells pJ 68)).alloc (.cells #[.complex .f64 0 0,.slice none 0 0] 96)).alloc (.cells RN 37)).alloc (.cells xQ 62));have cg:Hid (Below w.heap.size w W0):=aA (by rw[ay];exact aC (aC (aC (aC (aC (aC (aC (aB _ _) (aB _ _)) (aB _ _)) (aB _ _)) (aB _ _)) (aB _ _)) (aB _ _)) (aB _ _));have A:Hid (W0.heap[w.heap.size]? =some (.cells (fU s ca cc ra rc na nc oa oc ta tc ua uc ka kc ba bc) 62 (0,0))):=aA (by rw[ay];exact aE (aE (aE (aE (aE (aE (aE (aK _ _ _ qs) (aB _ _)) (aB _ _)) (aB _ _)) (aB _ _)) (aB _ _)) (aB _ _)) (aB _ _));have B:Hid (W0.heap[w.heap.size+1]? =some (.cells (rS o) 32 (0,0))):=aA (by rw[ay];exact aE (aE (aE (aE (aE (aE (aK _ _ _ qs) (aB _ _)) (aB _ _)) (aB _ _)) (aB _ _)) (aB _ _)) (aB _ _));have R1:Hid (W0.heap[w.heap.size+1+1]? =some (.cells xQ 62 (0,0))):=aA (by rw[ay];exact aE (aE (aE (aE (aE (aK _ _ _ qs) (aB _ _)) (aB _ _)) (aB _ _)) (aB _ _)) (aB _ _));have R2:Hid (W0.heap[w.heap.size+1+1+1]? =some (.cells RN 37 (0,0))):=aA (by rw[ay];exact aE (aE (aE (aE (aK _ _ _ qs) (aB _ _)) (aB _ _)) (aB _ _)) (aB _ _));have R3:Hid (W0.heap[w.heap.size+1+1+1+1]? =some (.cells pJ 68 (0,0))):=aA (by rw[ay];exact aE (aE (aE (aK _ _ _ qs) (aB _ _)) (aB _ _)) (aB _ _))
 have T:Hid (W0.heap[w.heap.size+1+1+1+1+1]? =some (.cells #[.complex .f64 0 0,.slice none 0 0] 96 (0,0))):=aA (by rw[ay];exact aE (aE (aK _ _ _ qs) (aB _ _)) (aB _ _));have Y:Hid (W0.heap[w.heap.size+1+1+1+1+1+1]? =some (.cells RN 37 (0,0))):=aA (by rw[ay];exact aE (aK _ _ _ qs) (aB _ _));have Z:Hid (W0.heap[w.heap.size+1+1+1+1+1+1+1]? =some (.cells xQ 62 (0,0))):=aA (by rw[ay];exact aK _ _ _ qs);have fw:Hid (lH w (fU s ca cc ra rc na nc oa oc ta tc ua uc ka kc ba bc) (rS o) #[.complex .f64 0 0,.slice none 0 0] RN (some xQ) W0):=aA ⟨A.o,B.o,R1.o,R2.o,R3.o,T.o,Y.o,cg.o,fun zz e=>by obtain rfl:=Option.some.inj e;exact Z.o⟩;have dm:=aA (h.on cg.o);have fz:=aA (bt.on cg.o);unfold pJ at ay;have ha:=aA ay;clear ay;unfold eZ bX aX;clear h bt ij ho iq ie hG;go_enter func15,ntmps15;go_wp2;obtain⟨JJ,e7⟩:∃JJ:Act->World->Prop,JJ=fun a' w'=>XL w (.agg #[.int .i64 s.aDX,.slice ca s.aDO.length cc,.slice ra s.aDQ.length rc,.slice na s.aDV.length nc,.slice oa s.aD1.length oc,.string s.aDP.id,.bool s.aDP.set,.int .i64 s.aDP.alg,.slice ta s.aDP.aDY.length tc,.slice ua s.aDP.aDR.length uc,.slice ka s.aDP.aD2.length kc,.slice ba s.aDP.aD4.length bc,.int .i64 s.aD0]) (.agg #[.int .i64 o.aDN,.string o.aD3,.string o.aDU,.string o.aD7,.string o.to_,.int .i64 o.val.1,.int .i64 o.val.2.1,.string o.val.2.2,.int .i64 o.aEa,.string o.text,.string o.aEc,.bool o.aEh]) G s (fU s ca cc ra rc na nc oa oc ta tc ua uc ka kc ba bc) xQ pJ a' w':=⟨_,rfl⟩
 refine uZ 0 JJ (fun _ _=>0) rfl ?_ ?_
 .as_aux_lemma=>
  subst e7;rintro a' wr ⟨e,at_,u,rfl,jb,A,R1,R2,R3,HB⟩;have kg:¬(w.heap.size+1+1+1=w.heap.size+1+1):=qo;obtain⟨⟨a0,a1,a2,a3,a4,a5,a6,a7,a8,a9,cv,cw,a12⟩,-⟩:=bW A.o;have za:=aD A.o;go_wp2_with (first
   |(refine eG rfl _ (.tmp 4) (.tmp 125) rfl (w.heap.size+1+1) _ rfl rfl _ _ R1.o TF rfl (by simp[Value.oneCell']) ?_;intro w1 cp e2;replace R2:=qS R2 e2.o (by show (_:Nat)≠_;omega);replace R3:=qS R3 e2.o (by show (_:Nat)≠_;omega);clear a0 a1 a2 a3 a4 a5 a6 a7 a8 a9 cv cw a12 za)
   |(refine eG rfl _ (.tmp 5) (.tmp 128) rfl (w.heap.size+1+1+1) _ rfl rfl _ _ R2.o Vd rfl (by simp[Value.oneCell']) ?_;intro w2 cq e3;replace cp:=qS cp e3.o (by show (_:Nat)≠_;omega);replace R3:=aA (aF R3.o e3.o (by show (_:Nat)≠_;omega)))
   |(refine eG rfl _ (.tmp 6) (.tmp 129) rfl (w.heap.size+1+1+1+1) _ rfl rfl _ _ R3.o Ve rfl (by simp[Value.oneCell']) ?_;intro w3 ji bg;replace cp:=qS cp bg.o (by show (_:Nat)≠_;omega);replace cq:=aA (aF cq.o bg.o (by show (_:Nat)≠_;omega))))
  have df:=aA (((aJ (ok:=fun b=>b<w.heap.size) HB.o).trans ((e2.o.mono (fun k _ hk=>by show (_:Nat)≠_;omega)).trans ((e3.o.mono (fun k _ hk=>by show (_:Nat)≠_;omega)).trans (bg.o.mono (fun k _ hk=>by show (_:Nat)≠_;omega))))).below (B:=w.heap.size) (fun k hk=>⟨hk,hk⟩));obtain⟨⟨a0,a1,a2,a3,a4,a5,a6,a7,a8,a9,cv,cw,a12⟩,-⟩:=bW cp.o;obtain⟨⟨b0,b1,b2,b3,b4,b5,b6,b7⟩,-⟩:=nZ cq.o;obtain⟨⟨c0,c1,c2,c3,c4,c5,c6,c7,c8,c9,jt,ju,c12,jv,jw,jx⟩,-⟩:=lM ji.o;unfold Exit.jump;refine bR (.tuple #[.agg #[.int .i64 s.aDX,.slice ca s.aDO.length cc,.slice ra s.aDQ.length rc,.slice na s.aDV.length nc,.slice oa s.aD1.length oc,.string s.aDP.id,.bool s.aDP.set,.int .i64 s.aDP.alg,.slice ta s.aDP.aDY.length tc,.slice ua s.aDP.aDR.length uc,.slice ka s.aDP.aD2.length kc,.slice ba s.aDP.aD4.length bc,.int .i64 s.aD0],.agg #[.int .i64 e,.complex .f64 0 0,.bool false,.int .i64 0,.int .i64 0,.string ⟨#[]⟩,.bool false,.int .i64 at_],.agg pJ,.int .i64 e]) ?_;have eu:=jb.o;subst eu;exact⟨.slice ca s.aDO.length cc,.slice ra s.aDQ.length rc,.slice na s.aDV.length nc,.slice oa s.aD1.length oc,.slice ta s.aDP.aDY.length tc,.slice ua s.aDP.aDR.length uc,.slice ka s.aDP.aD2.length kc,.slice ba s.aDP.aD4.length bc,.agg pJ,rfl,(HS.o.inb.aDW ((aJ df.o).mono (fun k _ hk=>hk.2))).more (fun b d=> .inl d),rfl,df.o⟩
 .intro _;have bl:=aA (aD Z.o);have ev:=aA e7;clear e7;obtain⟨⟨a0,a1,a2,a3,a4,a5,a6,a7,a8,a9,cv,cw,a12⟩,-⟩:=bW A.o;obtain⟨⟨b0,b1,b2,b3,b4,b5,b6,b7,b8,b9,jr,js⟩,-⟩:=bK B.o;have zA:=aD A.o;have zB:=aD B.o;go_upto_region 5 with (fail)
  rw[<-ha.o];go_wp2_with fail;refine(LP s _ _ _ _ _ _ _ _ o bx.o W0 dm.o).mono ?_;rintro e w1 ⟨rfl,bh⟩;have AA:=A;have BB:=B;clear a0 a1 a2 a3 a4 a5 a6 a7 a8 a9 cv cw a12 b0 b1 b2 b3 b4 b5 b6 b7 b8 b9 jr js zA zB;replace AA:=qK AA bh;obtain⟨⟨J,L,Q,S,U,V,W,X,aa,ab,M,O,P⟩,_⟩:=bW AA.o;have ad:=aD AA.o;replace BB:=qK BB bh;obtain⟨⟨f,l,q,r,t,y,z,D,E,F,m,p⟩,_⟩:=bK BB.o;have H:=aD BB.o;replace bh:=aA bh;go_upto_region 6 with (fail)
  go_cut [25] from 19 to 25 (fun v w'=>w'=w1/\∃b:Bool,v=.bool b/\Hid (b=decide (dJ s o=0/\o.aDN=7)))
  case first=>as_aux_lemma=>
   by_cases hE:dJ s o=0
   .by_cases hK:o.aDN=7
    .go_wp2
     all_goals go_meet
     all_goals exact⟨rfl,_,rfl,aA (by simp[hE,hK])⟩
    .go_wp2
     all_goals go_meet
     all_goals exact⟨rfl,_,rfl,aA (by simp[hE,hK])⟩
   .go_wp2
    all_goals go_meet
    all_goals exact⟨rfl,_,rfl,aA (by simp[hE])⟩
  case rest=>
  obtain⟨hw,b,hv,HB⟩:=hcut;have hw:=hw.symm;subst hw hv;go_upto_if 25 with (fail)
  go_cut [12,13] from 26 to 32 (fun v12 j1 w'=>v12=.int .i64 (oV s o).1/\j1=.int .i64 (oV s o).2/\Hid (Below W0.heap.size W0 w'))
  case first=>as_aux_lemma=>
   cases b
   .go_wp2
    all_goals go_meet
    have hc:=HB.o;exact⟨by unfold oV;rw[iN (fun e=>by rw[dX e] at hc;exact Bool.noConfusion hc)],by unfold oV;rw[iN (fun e=>by rw[dX e] at hc;exact Bool.noConfusion hc)],bh⟩
   .go_wp2_with (go_at_call 33;refine(sN o.text _ (fz.o.on bh.o)).mono ?_;rintro e wp ⟨vp,rfl,jz,ep⟩;replace ep:=aA ep;clear jz)
    all_goals go_meet
    have hc:=HB.o;exact⟨by unfold oV;rw[iP (of_decide_eq_true hc.symm)],by unfold oV;rw[iP (of_decide_eq_true hc.symm)],aA (aC bh.o ep.o)⟩
  case rest=>
  clear J L Q S U V W X aa ab M O P ad;clear f l q r t y z D E F m p H;obtain⟨rfl,rfl,bm⟩:=hcut;clear HB bh;have gq:=qB cg bm.o;go_upto_if 34 with (fail)
  by_cases ik:(oV s o).1=0
  .skip
   have gp:=aA ik;go_upto_region 9 with (fail)
   have HK:=aA bm.o.drew;have a:Hid (wc.drew.heap[w.heap.size]? =some (.cells (fU s ca cc ra rc na nc oa oc ta tc ua uc ka kc ba bc) 62 (0,0))/\wc.drew.heap[w.heap.size+1]? =some (.cells (rS o) 32 (0,0))):=aA ⟨aE A.o HK.o,aE B.o HK.o⟩;refine cD 10 [(0,false),(1,false),(2,false),(3,false),(4,true),(5,true),(6,false),(7,false),(8,false),(9,true)] [(10,true)] (fun w'=>w'.heap[w.heap.size]? =some (.cells (fU s ca cc ra rc na nc oa oc ta tc ua uc ka kc ba bc) 62 (0,0))/\w'.heap[w.heap.size+1]? =some (.cells (rS o) 32 (0,0))) (by decide +kernel) (by decide +kernel) a.o ?_;simp only[List.cons_append,List.nil_append];obtain⟨⟨J,L,Q,S,U,V,W,X,aa,ab,M,O,P⟩,-⟩:=bW (a.o).1;obtain⟨⟨f,l,q,r,t,y,z,D,E,F,m,p⟩,-⟩:=bK (a.o).2;have ad:=aD (a.o).1;have H:=aD (a.o).2
   repeat (refine dG rfl (fun K hK=> ?_);unfold rd;go_simp;refine hK _ (fun eo h1=> ?_) ?_;(· clear hK K J L Q S U V W X aa ab M O P ad f l q r t y z D E F m p H;obtain⟨⟨J,L,Q,S,U,V,W,X,aa,ab,M,O,P⟩,-⟩:=bW (h1).1;obtain⟨⟨f,l,q,r,t,y,z,D,E,F,m,p⟩,-⟩:=bK (h1).2;have ad:=aD (h1).1;have H:=aD (h1).2;unfold rd;go_simp);clear hK K)
   refine bJ rfl (fun K1 I=> ?_);unfold mv;go_simp;refine(Sg s _ _ _ _ _ _ _ _ o bx.o (fun c hc=>qA ((be.o.1.each c hc).aDT)) wc.drew (dm.o.on HK.o)).mono ?_;rintro e wa ⟨va,rfl,im,dw⟩;replace HK:=qB HK dw;replace a:=aA (And.intro (aE a.o.1 dw) (aE a.o.2 dw));have gz:=aA im;refine I _ _ (fun _=>a.o) ?_;clear I K1 im dw J L Q S U V W X aa ab M O P ad f l q r t y z D E F m p H;obtain⟨⟨J,L,Q,S,U,V,W,X,aa,ab,M,O,P⟩,-⟩:=bW a.o.1;obtain⟨⟨f,l,q,r,t,y,z,D,E,F,m,p⟩,-⟩:=bK a.o.2;have ad:=aD a.o.1;have H:=aD a.o.2;refine bJ rfl (fun K1 I=> ?_);unfold mv;go_simp;refine(SS (lv:=3) (lR _) s.aDP _ _ _ _ va (qM s o) wa (dm.o.on HK.o).aDP gz.o).mono ?_;rintro e wi ⟨vd,rfl,eb,dx⟩;have iu:W0.heap.size<=wa.heap.size:=HK.o.size;obtain⟨R,hR⟩:=xE (gN (qM s o) s.aDP);rw[<-hR] at eb ⊢;have HR:=aA hR;clear hR;replace HK:=qB HK dx;replace a:=aA (And.intro (aE a.o.1 dx) (aE a.o.2 dx));obtain⟨da,dc,rfl,_⟩:=eb.slice;have af:=aA (aH.more aO eb (ok':=fun b=>W0.heap.size<=b) (fun b d=>lT iu d));clear iu;refine I _ _ (fun _=>a.o) ?_;clear I K1 eb dx gz J L Q S U V W X aa ab M O P ad f l q r t y z D E F m p H;obtain⟨⟨J,L,Q,S,U,V,W,X,aa,ab,M,O,P⟩,-⟩:=bW a.o.1;obtain⟨⟨f,l,q,r,t,y,z,D,E,F,m,p⟩,-⟩:=bK a.o.2;have ad:=aD a.o.1;have H:=aD a.o.2
   repeat (refine dG rfl (fun K hK=> ?_);unfold rd;go_simp;refine hK _ (fun eo h1=> ?_) ?_;(· clear hK K J L Q S U V W X aa ab M O P ad f l q r t y z D E F m p H;obtain⟨⟨J,L,Q,S,U,V,W,X,aa,ab,M,O,P⟩,-⟩:=bW h1.1;obtain⟨⟨f,l,q,r,t,y,z,D,E,F,m,p⟩,-⟩:=bK h1.2;have ad:=aD h1.1;have H:=aD h1.2;unfold rd;go_simp);clear hK K)
   have HD:=aA (fw.o.on HK.o);refine bJ rfl (fun K1 I=> ?_);unfold mv;refine lF rfl _ (.tmp 8) (.tmp 42) rfl (w.heap.size+1+1+1+1+1) _ rfl rfl _ _ (aE T.o HK.o) aBe rfl (by simp[Value.oneCell']) ?_;intro w3 HT bg;have hq:∀{b},b≠w.heap.size+5->b≠w.heap.size+1+1+1+1+1:=fun h=>h
   replace a:=aA (And.intro (aF a.o.1 bg.o (hq qo)) (aF a.o.2 bg.o (hq qo)));refine I _ _ (fun _=>a.o) ?_;replace af:=aA (aH.aDW aO af.o (bg.o.mono (fun b _ d=>hq (by have:W0.heap.size<=b:=d;have:=bl.o;omega))));clear I K1 hq J L Q S U V W X aa ab M O P ad f l q r t y z D E F m p H;replace HD:=aA (HD.o.aE9 bg.o HT.o);refine bJ rfl (fun K1 I=> ?_);unfold mv;go_simp;refine I _ _ (fun h=>absurd h qe) ?_;clear I K1;unfold cJ;clear a;go_upto_if 45 with (fail)
   by_cases fo:R.2=0
   .skip
    have cq:=aA fo;go_upto_region 11 with (fail)
    have ax:=aA (HD.o.on (Below.refl _ _).drew);replace af:=aA (aH.on aO af.o (Below.refl _ _).drew);have a:Hid (w3.drew.heap[w.heap.size]? =some (.cells (fU s ca cc ra rc na nc oa oc ta tc ua uc ka kc ba bc) 62 (0,0))/\w3.drew.heap[w.heap.size+1]? =some (.cells (rS o) 32 (0,0))/\w3.drew.heap[w.heap.size+1+1+1+1+1]? =some (.cells #[.complex .f64 (Cm.qb R.1.1.1) (Cm.qb R.1.1.2),.slice da R.1.2.length dc] 96 (0,0))):=aA ⟨ax.o.1,ax.o.2.1,ax.o.2.2.2.2.2.1⟩;refine cD 10 [(0,false),(1,false),(2,false),(3,false),(4,false),(5,false),(7,false),(6,true),(8,true),(9,false)] [(10,true)] (fun w'=>w'.heap[w.heap.size]? =some (.cells (fU s ca cc ra rc na nc oa oc ta tc ua uc ka kc ba bc) 62 (0,0))/\w'.heap[w.heap.size+1]? =some (.cells (rS o) 32 (0,0))/\w'.heap[w.heap.size+1+1+1+1+1]? =some (.cells #[.complex .f64 (Cm.qb R.1.1.1) (Cm.qb R.1.1.2),.slice da R.1.2.length dc] 96 (0,0))) (by decide +kernel) (by decide +kernel) a.o ?_;simp only[List.cons_append,List.nil_append];obtain⟨⟨J,L,Q,S,U,V,W,X,aa,ab,M,O,P⟩,-⟩:=bW (a.o).1;obtain⟨⟨f,l,q,r,t,y,z,D,E,F,m,p⟩,-⟩:=bK (a.o).2.1;obtain⟨⟨ag,ah⟩,-⟩:=fL (a.o).2.2;have ad:=aD (a.o).1;have H:=aD (a.o).2.1;have ai:=aD (a.o).2.2
    repeat (refine dG rfl (fun K hK=> ?_);unfold rd;go_simp;refine hK _ (fun eo h1=> ?_) ?_;(· clear hK K J L Q S U V W X aa ab M O P ad f l q r t y z D E F m p H ag ah ai;obtain⟨⟨J,L,Q,S,U,V,W,X,aa,ab,M,O,P⟩,-⟩:=bW (h1).1;obtain⟨⟨f,l,q,r,t,y,z,D,E,F,m,p⟩,-⟩:=bK (h1).2.1;obtain⟨⟨ag,ah⟩,-⟩:=fL (h1).2.2;have ad:=aD (h1).1;have H:=aD (h1).2.1;have ai:=aD (h1).2.2;unfold rd;go_simp);clear hK K)
    refine bJ rfl (fun K1 I=> ?_);unfold mv;go_simp;refine(Ad s _ _ _ _ _ _ _ _ o R.1.1 (HR.o▸(vR _ _).1) w3.drew (HS.o.on ax.o.2.2.2.2.2.2.2.1) (fun x hx=>⟨(be.o.1.aEt x hx).1,(be.o.1.aEt x hx).2,be.o.1.aDX.2⟩)).mono ?_;rintro e wb ⟨rfl,fh⟩;obtain⟨gl,bt⟩:=xE (jM s o R.1.1);rw[<-bt];have jd:=aA bt;clear bt;replace ax:=aA (ax.o.on fh);replace af:=aA (aH.on aO af.o fh);replace a:=aA (And.intro ax.o.1 (And.intro ax.o.2.1 ax.o.2.2.2.2.2.1));refine I _ _ (fun _=>a.o) ?_;clear I K1 fh J L Q S U V W X aa ab M O P ad f l q r t y z D E F m p H ag ah ai;obtain⟨⟨J,L,Q,S,U,V,W,X,aa,ab,M,O,P⟩,-⟩:=bW (a.o).1;obtain⟨⟨f,l,q,r,t,y,z,D,E,F,m,p⟩,-⟩:=bK (a.o).2.1;obtain⟨⟨ag,ah⟩,-⟩:=fL (a.o).2.2;have ad:=aD (a.o).1;have H:=aD (a.o).2.1;have ai:=aD (a.o).2.2;obtain⟨⟨Y0,Y1,Y2,Y3,Y4,Y5,Y6,Y7⟩,aj,ak,an,ao,aq,ar,au,av⟩:=nZ ax.o.2.2.2.2.2.2.1;have zY:=aD ax.o.2.2.2.2.2.2.1;have il:=uR;refine bJ rfl (fun K1 I=> ?_);unfold mv;go_simp;clear il;generalize ft:wb.setCell ⟨w.heap.size+1+1+1+1+1+1,1,none⟩ (.complex .f64 (Cm.qb R.1.1.1) (Cm.qb R.1.1.2))=w4;have bj:Hid (lH w (fU s ca cc ra rc na nc oa oc ta tc ua uc ka kc ba bc) (rS o) #[.complex .f64 (Cm.qb R.1.1.1) (Cm.qb R.1.1.2),.slice da R.1.2.length dc] #[.int .i64 0,.complex .f64 (Cm.qb R.1.1.1) (Cm.qb R.1.1.2),.bool false,.int .i64 0,.int .i64 0,.string ⟨#[]⟩,.bool false,.int .i64 0] (some xQ) w4):=aA (by rw[<-ft];exact ax.o.aET (aI _) (aG ax.o.2.2.2.2.2.2.1 1 _));replace af:Hid (aH kE w4 (fun b=>W0.heap.size<=b) (.slice da R.1.2.length dc) R.1.2):=aA (by rw[<-ft];exact aH.aDW aO af.o ((aI _).mono (fun b _ d e=>by have:W0.heap.size<=b:=d;have:=bl.o;omega)))
    clear ft;replace a:=aA (And.intro bj.o.1 (And.intro bj.o.2.1 bj.o.2.2.2.2.2.1));refine I _ _ (fun _=>a.o) ?_;clear I K1 ax J L Q S U V W X aa ab M O P ad f l q r t y z D E F m p H ag ah ai Y0 Y1 Y2 Y3 Y4 Y5 Y6 Y7 aj ak an ao aq ar au av zY;obtain⟨⟨J,L,Q,S,U,V,W,X,aa,ab,M,O,P⟩,-⟩:=bW (a.o).1;obtain⟨⟨f,l,q,r,t,y,z,D,E,F,m,p⟩,-⟩:=bK (a.o).2.1;obtain⟨⟨ag,ah⟩,-⟩:=fL (a.o).2.2;have ad:=aD (a.o).1;have H:=aD (a.o).2.1;have ai:=aD (a.o).2.2
    repeat (refine dG rfl (fun K hK=> ?_);unfold rd;go_simp;refine hK _ (fun eo h1=> ?_) ?_;(· clear hK K J L Q S U V W X aa ab M O P ad f l q r t y z D E F m p H ag ah ai;obtain⟨⟨J,L,Q,S,U,V,W,X,aa,ab,M,O,P⟩,-⟩:=bW (h1).1;obtain⟨⟨f,l,q,r,t,y,z,D,E,F,m,p⟩,-⟩:=bK (h1).2.1;obtain⟨⟨ag,ah⟩,-⟩:=fL (h1).2.2;have ad:=aD (h1).1;have H:=aD (h1).2.1;have ai:=aD (h1).2.2;unfold rd;go_simp);clear hK K)
    obtain⟨⟨Y0,Y1,Y2,Y3,Y4,Y5,Y6,Y7⟩,aj,ak,an,ao,aq,ar,au,av⟩:=nZ bj.o.2.2.2.2.2.2.1;have zY:=aD bj.o.2.2.2.2.2.2.1;refine bJ rfl (fun K1 I=> ?_);unfold mv;go_simp;generalize fu:w4.setCell ⟨w.heap.size+1+1+1+1+1+1,2,none⟩ (.bool gl)=w5;have ae:Hid (lH w (fU s ca cc ra rc na nc oa oc ta tc ua uc ka kc ba bc) (rS o) #[.complex .f64 (Cm.qb R.1.1.1) (Cm.qb R.1.1.2),.slice da R.1.2.length dc] #[.int .i64 0,.complex .f64 (Cm.qb R.1.1.1) (Cm.qb R.1.1.2),.bool gl,.int .i64 0,.int .i64 0,.string ⟨#[]⟩,.bool false,.int .i64 0] (some xQ) w5):=aA (by rw[<-fu];exact bj.o.aET (aI _) (aG bj.o.2.2.2.2.2.2.1 2 _));replace af:Hid (aH kE w5 (fun b=>W0.heap.size<=b) (.slice da R.1.2.length dc) R.1.2):=aA (by rw[<-fu];exact aH.aDW aO af.o ((aI _).mono (fun b _ d e=>by have:W0.heap.size<=b:=d;have:=bl.o;omega)));clear fu;refine I _ _ (fun h=>absurd h qe) ?_;clear I K1 bj a J L Q S U V W X aa ab M O P ad f l q r t y z D E F m p H ag ah ai Y0 Y1 Y2 Y3 Y4 Y5 Y6 Y7 aj ak an ao aq ar au av zY;unfold cJ;obtain⟨⟨J,L,Q,S,U,V,W,X,aa,ab,M,O,P⟩,-⟩:=bW (And.intro ae.o.1 (And.intro ae.o.2.1 ae.o.2.2.2.2.2.1)).1;obtain⟨⟨f,l,q,r,t,y,z,D,E,F,m,p⟩,-⟩:=bK (And.intro ae.o.1 (And.intro ae.o.2.1 ae.o.2.2.2.2.2.1)).2.1;obtain⟨⟨ag,ah⟩,-⟩:=fL (And.intro ae.o.1 (And.intro ae.o.2.1 ae.o.2.2.2.2.2.1)).2.2;have ad:=aD (And.intro ae.o.1 (And.intro ae.o.2.1 ae.o.2.2.2.2.2.1)).1;have H:=aD (And.intro ae.o.1 (And.intro ae.o.2.1 ae.o.2.2.2.2.2.1)).2.1;have ai:=aD (And.intro ae.o.1 (And.intro ae.o.2.1 ae.o.2.2.2.2.2.1)).2.2;obtain⟨⟨Y0,Y1,Y2,Y3,Y4,Y5,Y6,Y7⟩,aj,ak,an,ao,aq,ar,au,av⟩:=nZ ae.o.2.2.2.2.2.2.1;have zY:=aD ae.o.2.2.2.2.2.2.1
    go_upto_region 12 with (fail)
    obtain⟨al,fg⟩:∃b,decide (R.1.1=((4,0):Mk))=b:=⟨_,rfl⟩;have e1:((FloatKind.f64.format.order (Cm.qb R.1.1.1) 4607182418800017408==some .eq)&&(FloatKind.f64.format.order (Cm.qb R.1.1.2) 0==some .eq))=al:=(Cm.iX R.1.1.1 R.1.1.2 4 0 (HR.o▸(vR _ _).1) qe qe).trans ((sP R.1.1 (4,0)).trans fg);have iz:=aA fg;clear fg;go_cut [11] from 55 to 61 (fun v w'=>w'=w5/\v=.bool (al||gl))
    case first=>as_aux_lemma=>
     cases al
     .go_wp2
      all_goals go_meet
      all_goals exact⟨rfl,rfl⟩
     .go_wp2
      all_goals go_meet
      all_goals exact⟨rfl,rfl⟩
    case rest=>
    obtain⟨hw,hv⟩:=hcut;have hw:=hw.symm;subst hw hv;clear e1;obtain⟨dn,fk⟩:=xE ((al||gl));rw[<-fk];have i7:=aA fk;clear fk;go_wp2_with fail;refine(VQ s _ _ _ _ _ _ _ _ w5 (HS.o.inb.on ae.o.2.2.2.2.2.2.2.1)).mono ?_;rintro e w6 hp;obtain⟨ko,ku,kr,L6,rfl,cy,db⟩:=Xa (HS.o.inb.on ae.o.2.2.2.2.2.2.2.1) hp;obtain⟨ke,kf,rfl⟩:=cy.aDO.slice;obtain⟨kj,kk,rfl⟩:=cy.aDQ.slice;obtain⟨kh,ki,rfl⟩:=cy.aDV.slice;obtain⟨hi,gj,fx⟩:=aZ (aE (ae.o.2.2.2.2.2.2.2.2 _ rfl) db) cy (ae.o.noz.on db);replace af:=aA (aH.on aO (aH.inb aO af.o) db);have jq:=aA (show w5.heap.size<=w6.heap.size from db.size);have cf:=aA (show w.heap.size+7<w5.heap.size from qA (aD (ae.o.2.2.2.2.2.2.2.2 _ rfl)));unfold aX;clear hp cy db ae J L Q S U V W X aa ab M O P ad f l q r t y z D E F m p H ag ah ai Y0 Y1 Y2 Y3 Y4 Y5 Y6 Y7 aj ak an ao aq ar au av zY;go_upto_region 14 with (refine eG rfl _ (.tmp 10) (.tmp 63) rfl (w.heap.size+1+1+1+1+1+1+1) _ rfl rfl _ _ hi.o TF rfl (by simp[Value.oneCell']) ?_;intro w7 hj dq)
    have bb:∀{b},b≠w.heap.size+7->b≠w.heap.size+1+1+1+1+1+1+1:=fun h=>h
    have ch:Hid (iE (fun b=>(ok b/\b<w.heap.size)/\b<w5.heap.size) w5.heap.size (w.heap.size+1+1+1+1+1+1+1) w7 w7 s):=aA ⟨L6,none,_,_,_,_,_,_,_,_,hj.o,gj.o.stays dq.o (fun b d=>bb (qA d.1.2)) (fun b d _=>bb (qA cf.o)),aN.refl _ _⟩;have bu:=aA (fx.o.off dq.o (fun b d=>bb qo));replace af:=aA (aH.aDW aO af.o (dq.o.mono (fun b _ d=>bb (by have:W0.heap.size<=b:=d.1;have:=bl.o;omega))));clear gj fx hi hj dq bb;obtain⟨⟨Y0,Y1,Y2,Y3,Y4,Y5,Y6,Y7⟩,aj,ak,an,ao,aq,ar,au,av⟩:=nZ bu.o.2.2.2.2.2.2.1;have zY:=aD bu.o.2.2.2.2.2.2.1;go_upto_if 65 with (fail)
    clear Y0 Y1 Y2 Y3 Y4 Y5 Y6 Y7 aj ak an ao aq ar au av zY;have gu:=aA (show s.aDQ.length<=256 from (AU.1 be.o.2).1);go_cut [4] from 66 to 69 (fun v w'=>v=.pointer (some ⟨w.heap.size+1+1,0,none⟩)/\Hid (iE (fun b=>(ok b/\b<w.heap.size)/\b<w5.heap.size) w5.heap.size (w.heap.size+1+1+1+1+1+1+1) w7 w' (if gl then gG s o o.aEc else s)))
    case first=>as_aux_lemma=>
     cases gl
     .go_wp2
      all_goals go_meet
      all_goals exact⟨rfl,aA ch.o⟩
     .obtain⟨⟨f,l,q,r,t,y,z,D,E,F,m,p⟩,-⟩:=bK bu.o.2.1;have H:=aD bu.o.2.1;go_wp2_with (go_at_call 38;refine(VH o bx.o s o.aEc bx.o.2.2.2.2.2.2.2.2 w7 (fun h=>qA h.1.2) (qA cf.o) (qA gu.o) ch.o).mono ?_;rintro e w8 ⟨rfl,ib⟩;replace ch:=aA ib;clear ib)
      all_goals go_meet
      all_goals exact⟨rfl,aA ch.o⟩
    case rest=>
    obtain⟨hv,bn⟩:=hcut;subst hv;obtain⟨s0,fp⟩:=xE ((if gl then gG s o o.aEc else s));rw[<-fp] at bn;have cu:=aA fp;clear fp ch;obtain⟨_,_,_,_,_,_,_,_,_,_,_,_,fs⟩:=bn.o;have bf:=aA (bu.o.off fs (fun b h=> .inl ⟨qA cf.o,fun e=>by omega⟩));replace af:=aA (aH.aDW aO af.o (fs.mono (fun b _ d=> .inl ⟨d.2,fun e=>by have:W0.heap.size<=b:=d.1;have:=bl.o;omega⟩)));replace bn:=aA bn.o.here;clear fs bu;go_upto_if 70 with (fail)
    go_cut [14,15] from 16 to 105 (fun v1 v2 w'=>Hid (mI ok w (fU s ca cc ra rc na nc oa oc ta tc ua uc ka kc ba bc) (rS o) #[.complex .f64 (Cm.qb R.1.1.1) (Cm.qb R.1.1.2),.slice da R.1.2.length dc] (eH (oI s o R.1.1 R.1.2 gl dn)) (.slice da R.1.2.length dc) R.1.2 (if dn=true then cT s0 o else s0) w'))
    case first=>as_aux_lemma=>
     have je:Hid (mI ok w _ _ _ _ (.slice da R.1.2.length dc) R.1.2 s0 wc):=aA ⟨_,_,fun b d=> .inl d.1,qA cf.o,bn.o,bf.o,af.o.more aO fun b d=>⟨qA bl.o,d.2⟩⟩;have il:=uR
     cases dn
     .obtain⟨⟨Y0,Y1,Y2,Y3,Y4,Y5,Y6,Y7⟩,aj,ak,an,ao,aq,ar,au,av⟩:=nZ bf.o.2.2.2.2.2.2.1;have zY:=aD bf.o.2.2.2.2.2.2.1;go_wp2
      all_goals go_meet
      all_goals exact aA (aAy s o R.1.1 R.1.2 gl▸je.o.at (aI _) (aG bf.o.2.2.2.2.2.2.1 0 _))
     .obtain⟨L8,km,kp,kv,ks,kt,kx,ky,kq,kn,de,e9,_⟩:=bn.o;have ig:kP 257 s0:=by rw[cu.o];split;(· exact DZ (FY be.o) _ _);(· exact(FY be.o).more qo)
      have dj:=aA ig;have i1:Hid (∀c∈s0.aDO,c.aDT.length<=900000):=aA (by rw[cu.o,tN];exact fun c hc=>lT (be.o.1.each c hc).aDT qo);have gr:Hid (s0.aD1.length<=900000/\0<=s0.aD0/\s0.aD0<=1000000):=aA (by rw[cu.o,(gY gl s o o.aEc).1,(gY gl s o o.aEc).2];exact⟨gg.o,e5.o.1,qA e5.o.2⟩);obtain⟨gw,dt,gx,ga⟩:=dH (e9.sto (qA dj.o.aDO) (qA dj.o.aDQ) (qA dj.o.aDV)) de e9.size (fy.o.on bf.o.2.2.2.2.2.2.2.1);have er:=aA (Lv s0 _ _ _ _ _ _ _ _ o bx.o wc gw.o ga.o (dj.o.more qo) i1.o gr.o.1 gr.o.2);obtain⟨⟨f,l,q,r,t,y,z,D,E,F,m,p⟩,-⟩:=bK bf.o.2.1;have H:=aD bf.o.2.1;unfold aX at de er;obtain⟨⟨X0,X1,X2,X3,X4,X5,X6,X7,X8,X9,bq,br,bs⟩,-⟩:=bW de;have zX:=aD de;clear de e9 ig;go_wp2_with fail;refine er.o.mono ?_;rintro e w9 ⟨K9,e6,L9,j0,j3,j7,j5,j6,j8,j9,j4,j2,rfl,hs,iv,fb,dv⟩;obtain⟨hg,gk,gn⟩:=aZ (aE dt.o dv) fb fb.one;have ew:Hid (∀b,K9 b->(ok b/\b<w.heap.size)\/w.heap.size+8<=b):=aA (fun b d=>(hs b d).elim (fun h=>h.1.elim (fun h=> .inl h.1) (fun h=> .inr (qA cf.o))) (fun h=> .inr (qA (aD dt.o))));have du:Hid (w.heap.size+8<=e6/\w5.heap.size<=e6):=aA ⟨qA (aD dt.o),lT gx.o iv⟩;have gh:=aA (bf.o.on dv);have gy:=aA (aH.on aO af.o dv);clear X0 X1 X2 X3 X4 X5 X6 X7 X8 X9 bq br bs zX f l q r t y z D E F m p H dv fb hs iv;go_upto_region 18 with (refine eG rfl _ (.tmp 10) (.tmp 73) rfl (w.heap.size+1+1+1+1+1+1+1) _ rfl rfl _ _ hg.o TF rfl gn.o ?_;intro ix hh dp)
      have bb:∀{b},b≠w.heap.size+7->b≠w.heap.size+1+1+1+1+1+1+1:=fun h=>h
      have az:Hid (mI ok w _ _ _ _ (.slice da R.1.2.length dc) R.1.2 (cT s0 o) ix):=aA ⟨K9,e6,ew.o,du.o.1,⟨L9,j0,j3,j7,j5,j6,j8,j9,j4,j2,hh.o,gk.o.stays dp.o (fun b d=>bb (by rcases ew.o b d with h|h<;>omega)) (fun b d _=>bb (qA du.o)),aN.refl _ _⟩,gh.o.off dp.o (fun b d=>bb qo),(aH.aDW aO gy.o (dp.o.mono fun b _ d=>bb (qD d.1 bl.o))).more aO fun b d=>⟨qD bl.o d.1,lL d.2 du.o.2⟩⟩;clear hh dp gh gy gk hg gn du ew dt gw er ga gx bb;obtain⟨⟨f,l,q,r,t,y,z,D,E,F,m,p⟩,-⟩:=bK az.o.aEo.2.1;have H:=aD az.o.aEo.2.1;obtain⟨⟨Y0,Y1,Y2,Y3,Y4,Y5,Y6,Y7⟩,aj,ak,an,ao,aq,ar,au,av⟩:=nZ az.o.aEo.2.2.2.2.2.2.1;have zY:=aD az.o.aEo.2.2.2.2.2.2.1;by_cases hk:o.aDN=2
      .have b1:(o.aDN==(2:Int))=true:=by rw[hk];rfl
       have di:=aA hk;clear hk;obtain⟨hd,fl⟩:∃b,R.1.2.any (fun x=>decide (x.aDN=2)&&decide (x.arg=o.aD7))=b:=⟨_,rfl⟩;have cl:=Gq _ R.1.2 o.aD7 ix az.o.obs;rw[fl] at cl;have cl:=aA cl;have gb:=aA fl;clear fl;obtain⟨⟨ag,ah⟩,-⟩:=fL az.o.aEo.2.2.2.2.2.1;have ai:=aD az.o.aEo.2.2.2.2.2.1;go_upto_region 19 with (go_at_call 40;refine cl.o.mono ?_;rintro e kb ⟨rfl,ht⟩;have bp:=aA (az.o.on ht);clear f l q r t y z D E F m p H Y0 Y1 Y2 Y3 Y4 Y5 Y6 Y7 aj ak an ao aq ar au av zY az cl ht ag ah ai;obtain⟨⟨f,l,q,r,t,y,z,D,E,F,m,p⟩,-⟩:=bK bp.o.aEo.2.1;have H:=aD bp.o.aEo.2.1;obtain⟨⟨Y0,Y1,Y2,Y3,Y4,Y5,Y6,Y7⟩,aj,ak,an,ao,aq,ar,au,av⟩:=nZ bp.o.aEo.2.2.2.2.2.2.1;have zY:=aD bp.o.aEo.2.2.2.2.2.2.1)
       generalize ir:kb.setCell _ _=iy;have bd:Hid (mI ok w _ _ _ #[.int .i64 0,.complex .f64 (Cm.qb R.1.1.1) (Cm.qb R.1.1.2),.bool gl,.int .i64 0,.int .i64 0,.string ⟨#[]⟩,.bool hd,.int .i64 0] (.slice da R.1.2.length dc) R.1.2 (cT s0 o) iy):=aA (by rw[<-ir];exact bp.o.at (aI _) (aG bp.o.aEo.2.2.2.2.2.2.1 6 _));clear ir f l q r t y z D E F m p H Y0 Y1 Y2 Y3 Y4 Y5 Y6 Y7 aj ak an ao aq ar au av zY bp;obtain⟨⟨f,l,q,r,t,y,z,D,E,F,m,p⟩,-⟩:=bK bd.o.aEo.2.1;have H:=aD bd.o.aEo.2.1;obtain⟨⟨Y0,Y1,Y2,Y3,Y4,Y5,Y6,Y7⟩,aj,ak,an,ao,aq,ar,au,av⟩:=nZ bd.o.aEo.2.2.2.2.2.2.1;have zY:=aD bd.o.aEo.2.2.2.2.2.2.1
       cases hd
       .obtain⟨⟨J,L,Q,S,U,V,W,X,aa,ab,M,O,P⟩,-⟩:=bW bd.o.aEo.1;have ad:=aD bd.o.aEo.1;have fq:=HS.o.on bd.o.aEo.2.2.2.2.2.2.2.1;have cj:=DR s _ _ _ _ _ _ _ _ o.aDU iy fq;have i6:=aA (fun c hc=>EA (N:=o.aDU) (c:=c) fq hc);unfold aX at cj;have cj:=aA cj;clear fq;go_wp2_with fail;refine cj.o.mono ?_;intro e el hp;obtain⟨c,vf,vl,bo,rfl,dy,ic,hy⟩:=aBf hp i6.o;obtain⟨fa,fc,rfl,_⟩:=dy.2.2.2.1.slice;obtain⟨la,lc,rfl,_⟩:=dy.2.2.2.2.slice;obtain⟨W2,ec⟩:=xE (el.alloc (.cells (pH c fa fc la lc) 113));have fj:Below el.heap.size el W2:=by rw[ec];exact aB _ _
        have C:Hid (W2.heap[el.heap.size]? =some (.cells (pH c fa fc la lc) 113 (0,0))):=aA (by rw[ec];exact aK _ _ _ rfl);have bz:=aA ((bd.o.on hy).on fj);have bw:=LA c _ _ o.aD7 W2 (dy.aDW (aJ fj));obtain⟨v,hv⟩:∃v,eB c o.aD7=v:=⟨_,rfl⟩;rw[hv] at bw;have ja:Hid (v=((dU s o.aDU).map (fun c=>eB c o.aD7)).getD aY):=aA (by rw[ic,hv]);unfold aP dC at bw;have bw:=aA bw;have jn:=aA ec;clear ec hy fj dy ic hv hp f l q r t y z D E F m p H Y0 Y1 Y2 Y3 Y4 Y5 Y6 Y7 aj ak an ao aq ar au av zY J L Q S U V W X aa ab M O P ad bd cj;go_upto_region 21 with (fail)
        rw[<-jn.o];obtain⟨⟨f,l,q,r,t,y,z,D,E,F,m,p⟩,-⟩:=bK bz.o.aEo.2.1;have H:=aD bz.o.aEo.2.1;obtain⟨⟨Y0,Y1,Y2,Y3,Y4,Y5,Y6,Y7⟩,aj,ak,an,ao,aq,ar,au,av⟩:=nZ bz.o.aEo.2.2.2.2.2.2.1;have zY:=aD bz.o.aEo.2.2.2.2.2.2.1;obtain⟨⟨C0,C1,C2,C3,C4⟩,-⟩:=dM C.o;have zC:=aD C.o;go_wp2_with fail;refine bw.o.mono ?_;rintro e kz ⟨rfl,ia⟩;have cb:=aA (bz.o.on ia);clear ia f l q r t y z D E F m p H Y0 Y1 Y2 Y3 Y4 Y5 Y6 Y7 aj ak an ao aq ar au av zY bz bw C0 C1 C2 C3 C4 zC;obtain⟨⟨f,l,q,r,t,y,z,D,E,F,m,p⟩,-⟩:=bK cb.o.aEo.2.1;have H:=aD cb.o.aEo.2.1;obtain⟨⟨Y0,Y1,Y2,Y3,Y4,Y5,Y6,Y7⟩,aj,ak,an,ao,aq,ar,au,av⟩:=nZ cb.o.aEo.2.2.2.2.2.2.1;have zY:=aD cb.o.aEo.2.2.2.2.2.2.1;go_wp2
        all_goals go_meet
        all_goals exact aA (Xx s o R.1.1 R.1.2 gl di.o gb.o ja.o▸cb.o.at (((aI _).trans (aI _)).trans (aI _)) (aG (aG (aG cb.o.aEo.2.2.2.2.2.2.1 3 _) 4 _) 5 _))
       .go_wp2
        all_goals go_meet
        all_goals exact aA (Xw s o R.1.1 R.1.2 gl di.o gb.o▸bd.o)
      .have b1:(o.aDN==(2:Int))=false:=bN.2 hk;have di:=aA hk;clear hk;go_wp2
       all_goals go_meet
       all_goals exact aA (Nf s o R.1.1 R.1.2 gl di.o▸az.o.at (aI _) (aG az.o.aEo.2.2.2.2.2.2.1 6 _))
    case rest=>
    have HM:=hcut;clear hcut bn bf af
    try clear ha
    try clear dm
    try clear fz
    try clear fw
    try clear A
    try clear B
    try clear R1
    try clear R2
    try clear R3
    try clear T
    try clear Y
    try clear Z
    try clear AA
    try clear BB
    try clear HT
    try clear bg
    try clear HD
    try clear bm
    try clear gq
    try clear HK
    try clear a
    try clear e5
    try clear gg
    try clear gu
    try clear jq
    try clear cf
    try clear cg
    try clear fy
    obtain⟨s1,dz⟩:=xE ((if dn=true then cT s0 o else s0));rw[<-dz] at HM;have ih:kP 258 s1:=by
     have h0:kP 257 s0:=by rw[cu.o];split;(· exact DZ (FY be.o) _ _);(· exact(FY be.o).more qo)
     rw[dz];split;(· exact Ng h0 o);(· exact h0.more qo)
    obtain⟨gf,jm,gi⟩:=aZ ih dz (HR.o▸vR (qM s o) s.aDP);clear dz ih;obtain⟨K,base,hK,hz,hl,cx,fe⟩:=HM.o;have cm:=aA (And.intro hK hz);have ck:=ZU o bx.o s1 _ R.1.2 dn wc (fun h=>by rcases hK _ h with h|h<;>omega) qo fe (fun b d=>⟨d.2,fun e=>qA d.1⟩) 258 gf.o (qA gi.o.2) hl;unfold eZ bX at ck;have ck:=aA ck;have gm:=aA fe;clear hK hz hl fe;obtain⟨⟨f,l,q,r,t,y,z,D,E,F,m,p⟩,-⟩:=bK cx.2.1;have H:=aD cx.2.1;obtain⟨⟨ag,ah⟩,-⟩:=fL cx.2.2.2.2.2.1;have ai:=aD cx.2.2.2.2.2.1;clear cx;go_wp2_with fail;refine ck.o.mono ?_;rintro e kd ⟨rfl,K2,jy,hr,hn⟩;have bk:=aA (yD o dn R.1.2 258 s1 gf.o);obtain⟨s2,ea⟩:=xE (R.1.2.foldl (cU o dn) s1);rw[<-ea] at hn;have bk:Hid (kP 900000 s2):=aA (ea▸bk.o.more (qA gi.o.2));have et:=aA (MQ gp.o HR.o cq.o jd.o iz.o i7.o cu.o (s2:=s2) (by rw[ea,jm.o]));obtain⟨L2,kl,ee,ei,eg,eh,ej,ek,ef,ed,dd,e8,fr⟩:=hn;have aw:=aA (HM.o.aEo.off fr (fun b d=> .inl ⟨qA cm.o.2,fun e=>by omega⟩));have ey:=aA (aH.aDW aO gm.o (fr.mono fun b _ d=> .inl ⟨d.2,fun e=>qA d.1⟩));have gd:Hid (∀b,K2 b->(ok b/\b<w.heap.size)\/w.heap.size+8<=b):=aA (fun b d=>(hr b d).elim (cm.o.1 b) (fun h=> .inr (lT cm.o.2 h)));obtain⟨dk,hf,gv⟩:=aZ e8 dd (e8.sto (qA bk.o.aDO) (qA bk.o.aDQ) (qA bk.o.aDV));have cn:=Nc s2 _ _ _ _ _ _ _ _ kd gv.o;unfold aX at dd cn;obtain⟨⟨X0,X1,X2,X3,X4,X5,X6,X7,X8,X9,bq,br,bs⟩,-⟩:=bW dd;have zX:=aD dd;have cn:=aA cn;clear dd e8 fr jy hr HM gm ck ea f l q r t y z D E F m p H ag ah ai;obtain⟨ρ,fv⟩:=xE (oI s o R.1.1 R.1.2 gl dn);have iw:ρ.aEh=gl:=by rw[fv];rfl
    rw[<-fv] at aw et;have jl:=aA iw;clear fv iw;go_wp2_with fail;refine cn.o.mono ?_;rintro e en ⟨rfl,cz⟩;replace aw:=aA (aw.o.on cz);replace dk:=aA (dk.o.on cz);replace ey:=aA (aH.on aO ey.o cz);have jo:=qK hf cz;clear cz cn hf gv X0 X1 X2 X3 X4 X5 X6 X7 X8 X9 bq br bs zX
    cases fm:kF s2
    .skip
     have jc:=aA (dh.o.trans (et.o.trans (iN (by rw[fm];decide))));have a:Hid (XM w (fU s ca cc ra rc na nc oa oc ta tc ua uc ka kc ba bc) (rS o) #[.complex .f64 (Cm.qb R.1.1.1) (Cm.qb R.1.1.2),.slice da R.1.2.length dc] #[.int .i64 ρ.err,.complex .f64 (Cm.qb ρ.mark.1) (Cm.qb ρ.mark.2),.bool ρ.aEh,.int .i64 ρ.val.1,.int .i64 ρ.val.2.1,.string ρ.val.2.2,.bool ρ.hidden,.int .i64 ρ.at_] #[.int .i64 s2.aDX,ee,ei,eg,eh,.string s2.aDP.id,.bool s2.aDP.set,.int .i64 s2.aDP.alg,ej,ek,ef,ed,.int .i64 s2.aD0] en):=aA ⟨aw.o.1,aw.o.2.1,aw.o.2.2.2.2.2.1,aw.o.2.2.2.2.2.2.1,jo.o⟩;obtain⟨jj,ez,cr⟩:=aZ aw.o.2.2.1 aw.o.2.2.2.1 aw.o.2.2.2.2.1;have ff:=dk.o.one;unfold aX at ff;have jh:=aA ff;clear ff fm;go_upto_region 26 with (fail)
     refine cD 15 [(0,false),(1,false),(2,false),(3,false),(4,false),(5,false),(6,false),(7,false),(8,false),(9,false),(10,false),(11,false),(12,true),(13,true),(14,true)] [(15,true)] (XM w (fU s ca cc ra rc na nc oa oc ta tc ua uc ka kc ba bc) (rS o) #[.complex .f64 (Cm.qb R.1.1.1) (Cm.qb R.1.1.2),.slice da R.1.2.length dc] #[.int .i64 ρ.err,.complex .f64 (Cm.qb ρ.mark.1) (Cm.qb ρ.mark.2),.bool ρ.aEh,.int .i64 ρ.val.1,.int .i64 ρ.val.2.1,.string ρ.val.2.2,.bool ρ.hidden,.int .i64 ρ.at_] #[.int .i64 s2.aDX,ee,ei,eg,eh,.string s2.aDP.id,.bool s2.aDP.set,.int .i64 s2.aDP.alg,ej,ek,ef,ed,.int .i64 s2.aD0]) (by decide +kernel) (by decide +kernel) a.o ?_;simp only[List.cons_append,List.nil_append];obtain⟨⟨J,L,Q,S,U,V,W,X,aa,ab,M,O,P⟩,-⟩:=bW a.o.1;have ad:=aD a.o.1;obtain⟨⟨f,l,q,r,t,y,z,D,E,F,m,p⟩,-⟩:=bK a.o.2.1;have H:=aD a.o.2.1;obtain⟨⟨ag,ah⟩,-⟩:=fL a.o.2.2.1;have ai:=aD a.o.2.2.1;obtain⟨⟨Y0,Y1,Y2,Y3,Y4,Y5,Y6,Y7⟩,-⟩:=nZ a.o.2.2.2.1;have zY:=aD a.o.2.2.2.1;obtain⟨⟨X0,X1,X2,X3,X4,X5,X6,X7,X8,X9,bq,br,bs⟩,-⟩:=bW a.o.2.2.2.2;have zX:=aD a.o.2.2.2.2
     repeat (refine dG rfl (fun K hK=> ?_);unfold rd;go_simp;refine hK _ (fun eo h1=> ?_) ?_;(· clear hK K J L Q S U V W X aa ab M O P ad f l q r t y z D E F m p H ag ah ai Y0 Y1 Y2 Y3 Y4 Y5 Y6 Y7 zY X0 X1 X2 X3 X4 X5 X6 X7 X8 X9 bq br bs zX;obtain⟨⟨J,L,Q,S,U,V,W,X,aa,ab,M,O,P⟩,-⟩:=bW h1.1;have ad:=aD h1.1;obtain⟨⟨f,l,q,r,t,y,z,D,E,F,m,p⟩,-⟩:=bK h1.2.1;have H:=aD h1.2.1;obtain⟨⟨ag,ah⟩,-⟩:=fL h1.2.2.1;have ai:=aD h1.2.2.1;obtain⟨⟨Y0,Y1,Y2,Y3,Y4,Y5,Y6,Y7⟩,-⟩:=nZ h1.2.2.2.1;have zY:=aD h1.2.2.2.1;obtain⟨⟨X0,X1,X2,X3,X4,X5,X6,X7,X8,X9,bq,br,bs⟩,-⟩:=bW h1.2.2.2.2;have zX:=aD h1.2.2.2.2;unfold rd;go_simp);clear hK K)
     clear J L Q S U V W X aa ab M O P ad f l q r t y z D E F m p H ag ah ai Y0 Y1 Y2 Y3 Y4 Y5 Y6 Y7 zY X0 X1 X2 X3 X4 X5 X6 X7 X8 X9 bq br bs zX;refine bJ rfl (fun K1 I=> ?_);unfold mv;refine lF rfl _ (.tmp 4) (.tmp 113) rfl (w.heap.size+1+1) _ rfl rfl _ _ jj.o TF rfl jh.o ?_;intro wA ct cd;replace cd:Hid (aN (fun b=>b≠w.heap.size+1+1) en wA):=aA ((aJ (Below.refl _ en).drew).trans cd.o);replace a:=aA (a.o.off (g:=w.heap.size+1+1) cd.o (j:=2) rfl qe);replace ez:=aA (nI ez.o (g:=w.heap.size+1+1) cd.o (n:=w.heap.size) (i:=3) (j:=2) rfl rfl qe);replace cr:=aA (nI cr.o (g:=w.heap.size+1+1) cd.o (n:=w.heap.size) (i:=4) (j:=2) rfl rfl qe);refine I _ _ (fun _=>a.o) ?_;clear I K1;refine bJ rfl (fun K1 I=> ?_);unfold mv;refine lF rfl _ (.tmp 5) (.tmp 114) rfl (w.heap.size+1+1+1) _ rfl rfl _ _ ez.o Vd rfl (by simp[Value.oneCell']) ?_;intro wB e0 dr;replace a:=aA (a.o.off (g:=w.heap.size+1+1+1) dr.o (j:=3) rfl qe);replace cr:=aA (nI cr.o (g:=w.heap.size+1+1+1) dr.o (n:=w.heap.size) (i:=4) (j:=3) rfl rfl qe);replace ct:=aA (nI ct.o (g:=w.heap.size+1+1+1) dr.o (n:=w.heap.size) (i:=2) (j:=3) rfl rfl qe);refine I _ _ (fun _=>a.o) ?_;clear I K1;refine bJ rfl (fun K1 I=> ?_);unfold mv;refine lF rfl _ (.tmp 6) (.tmp 124) rfl (w.heap.size+1+1+1+1) _ rfl rfl _ _ cr.o Ve rfl (by simp[Value.oneCell']) ?_;intro wD jk ds;replace a:=aA (a.o.off (g:=w.heap.size+1+1+1+1) ds.o (j:=4) rfl qe);replace ct:=aA (nI ct.o (g:=w.heap.size+1+1+1+1) ds.o (n:=w.heap.size) (i:=2) (j:=4) rfl rfl qe);replace e0:=aA (nI e0.o (g:=w.heap.size+1+1+1+1) ds.o (n:=w.heap.size) (i:=3) (j:=4) rfl rfl qe)
     refine I _ _ (fun _=>a.o) ?_;clear I K1;refine bJ rfl (fun K1 I=> ?_);unfold mv;go_simp;refine I _ _ (fun h=>absurd h qe) ?_;clear I K1;unfold cJ;have e4:Hid (aN (fun b=>b≠w.heap.size+2/\b≠w.heap.size+3/\b≠w.heap.size+4) en wD):=aA ((cd.o.mono fun b _ d=>d.1).trans ((dr.o.mono fun b _ d=>d.2.1).trans (ds.o.mono fun b _ d=>d.2.2)));have df:Hid (Below w.heap.size w wD):=aA (Nh aw.o.2.2.2.2.2.2.2.1 e4.o);have jf:=aA (dk.o.stays e4.o (fun b d=>aBg (gd.o b d)) (fun b d _=>Ss cm.o.2 d));have jg:=aA (aH.aDW aO ey.o (e4.o.mono fun b _ d=>aAz d.1));obtain⟨⟨a0,a1,a2,a3,a4,a5,a6,a7,a8,a9,cv,cw,a12⟩,-⟩:=bW ct.o;obtain⟨⟨b0,b1,b2,b3,b4,b5,b6,b7⟩,-⟩:=nZ e0.o;obtain⟨⟨c0,c1,c2,c3,c4,c5,c6,c7,c8,c9,jt,ju,c12,jv,jw,jx⟩,-⟩:=lM jk.o;go_wp2_with fail;unfold Exit.jump;refine bR (.tuple #[.agg #[.int .i64 s2.aDX,ee,ei,eg,eh,.string s2.aDP.id,.bool s2.aDP.set,.int .i64 s2.aDP.alg,ej,ek,ef,ed,.int .i64 s2.aD0],.agg #[.int .i64 ρ.err,.complex .f64 (Cm.qb ρ.mark.1) (Cm.qb ρ.mark.2),.bool ρ.aEh,.int .i64 ρ.val.1,.int .i64 ρ.val.2.1,.string ρ.val.2.2,.bool ρ.hidden,.int .i64 ρ.at_],.agg #[.int .i64 o.aDN,.string o.aD3,.string o.aDU,.string o.aD7,.string o.to_,.int .i64 o.val.1,.int .i64 o.val.2.1,.string o.val.2.2,.int .i64 o.aEa,.string o.text,.string o.aEc,.bool o.aEh,.int .i64 s.aD0,.complex .f64 (Cm.qb R.1.1.1) (Cm.qb R.1.1.2),.bool ρ.aEh,.slice da R.1.2.length dc],.int .i64 0]) ?_;obtain rfl:=jl.o;have eu:=jc.o;subst eu;exact⟨ee,ei,eg,eh,ej,ek,ef,ed,.agg (nD ⟨o,s.aD0,R.1.1,ρ.aEh,R.1.2⟩ (.slice da R.1.2.length dc)),rfl,(jf.o.sto (qA bk.o.aDO) (qA bk.o.aDQ) (qA bk.o.aDV)).more (fun b d=>aAB cm.o.2 (d.imp (gd.o b) id)),⟨_,rfl,aH.more aO jg.o (fun b d=>aAA d.1)⟩,df.o⟩
    .go_wp2;refine wp_goto (show 0=0/\JJ _ _ from ⟨rfl,?_⟩);rw[ev.o];show XL w _ _ G s _ _ _ _ _;refine KD 6 (oV s o).2 ?_ ⟨aA (dh.o.trans (et.o.trans (iP fm))),aA aw.o.1,aA aw.o.2.2.1,aA aw.o.2.2.2.1,aA aw.o.2.2.2.2.1,aA aw.o.2.2.2.2.2.2.2.1⟩;rfl
   .go_wp2;refine wp_goto (show 0=0/\JJ _ _ from ⟨rfl,?_⟩);rw[ev.o];show XL w _ _ G s _ _ _ _ _;refine KD R.2 (oV s o).2 ?_ ⟨aA (dh.o.trans (by rw[HR.o] at fo ⊢;exact MP gp.o fo)),aA HD.o.1,aA HD.o.2.2.1,aA HD.o.2.2.2.1,aA HD.o.2.2.2.2.1,aA HD.o.2.2.2.2.2.2.2.1⟩;rfl
  .go_wp2;refine wp_goto (show 0=0/\JJ _ _ from ⟨rfl,?_⟩);rw[ev.o];show XL w _ _ G s _ _ _ _ _;refine KD (oV s o).1 (oV s o).2 ?_ ⟨aA (dh.o.trans (MO ik)),aA (aE A.o bm.o),aA (aE R1.o bm.o),aA (aE R2.o bm.o),aA (aE R3.o bm.o),gq⟩;rfl
def eL(s:String):List UInt8:=s.toUTF8.data.toList
def mR(n:Int):List UInt8:=Lib.itoa n
def FZ(m:Mk):List UInt8:=
 if m=(0,0) then eL "NotApplicable" else if m=(4,0) then eL "Permit" else if m=(0,4) then eL "Deny"
 else if m=(2,0) then eL "Indeterminate"++[123,80,125] else if m=(0,2) then eL "Indeterminate"++[123,68,125] else if m=(2,2) then eL "Indeterminate"++[123,68,80,125] else []
def KE(n:Nat):UInt8:=if n<10 then UInt8.ofNat (48+n) else UInt8.ofNat (87+n)
def uT(c:UInt8):List UInt8:=if fG c then [c] else [92,KE (c.toNat / 16),KE (c.toNat % 16)]
def GD(l:lU):List UInt8:=[34]++l.flatMap uT++[34]
def vS(v:V3):List UInt8:=
 if aT v=false then []
 else if v.1=1 then (if v.2.1=1 then eL "true" else eL "false")
 else if v.1=4 then [64]++mR v.2.1
 else if v.1=5 then [35]++v.2.2.data.toList
 else if v.1=3 then GD v.2.2.data.toList
 else mR v.2.1
def Ci(r:Rpl):List UInt8:=
 if r.err=12/\r.mark≠(4,0) then eL "denied "++FZ r.mark
 else if r.err≠0/\0<r.at_ then eL "error "++mR r.err++eL " at "++mR r.at_
 else if r.err≠0 then eL "error "++mR r.err
 else if r.aEh=true then eL "glass"
 else if r.hidden=true then eL "hidden"
 else if r.val≠aY then eL "ok "++vS r.val
 else eL "ok"
def GF(r:Rpl):ByteArray:=bs (Ci r)
def Vf:ByteArray:=str "what"
def dN(s:Sto)(q:lU):Sto×ByteArray:=
 match kQ q with
 |none=>(s,Vf)
 |some o=>((bO s o).1,GF (bO s o).2.1)
end Go.Proofs.YthcgdgkpgdjahaaGreatDoor
