/- Lemmas. -/
import Derived.Test.YtheabjeppmdmiaaGreatDoorMbe
import Derived.Test.YtheabjeppmdmiaaGreatDoorMbj
import Derived.Test.YtheabjeppmdmiaaGreatDoorMbm
namespace Go.Proofs.YtheabjeppmdmiaaGreatDoor
open Go.RowKit
set_option linter.unusedVariables false
set_option linter.unusedSimpArgs false
set_option maxHeartbeats 16000000
open _root_.Go.Proofs.Tryz
set_option maxRecDepth 20000
theorem SW:(prog.info? 52).map (·.size)=some 13:=by kernel_rfl
theorem Uo:(prog.info? 36).map (·.size)=some 8:=by kernel_rfl
theorem Up:(prog.info? 58).map (·.size)=some 16:=by kernel_rfl
theorem aA5:(prog.info? 82).map (·.size)=some 2:=by kernel_rfl
def FR(ok:nP)(G:Sto×Rpl×Option Deci×Int)(w:World)(e:Ending)(w':World):Prop:=∃(vc vr vn vo vt vu vk vb vd:Value),e=.returned (.tuple #[.agg (aV G.1 vc vr vn vo vt vu vk vb),.agg (dZ G.2.1),vd,.int .i64 G.2.2.2])/\fD w' (fun b=>(ok b/\b<w.heap.size)\/w.heap.size<=b) G.1 vc vr vn vo vt vu vk vb/\(match G.2.2.1 with |none=>vd=.agg pG|some d=>∃a,vd=.agg (lC d a)/\aH kB w' (fun b=>w.heap.size<=b) a d.aDX)/\Below w.heap.size w w'
def XB(w:World)(vs d:Value)(G:Sto×Rpl×Option Deci×Int)(s:Sto)(cs c b:Array Value)(a:Act)(w':World):Prop:=
 ∃(e at_:Int) (u:Nat->Value),a={tmps:=#[vs,d,.pointer (some ⟨w.heap.size,0,none⟩),.pointer (some ⟨w.heap.size+1,0,none⟩),.pointer (some ⟨w.heap.size+1+1,0,none⟩),.pointer (some ⟨w.heap.size+1+1+1,0,none⟩),.pointer (some ⟨w.heap.size+1+1+1+1,0,none⟩),u 7,u 8,u 9,u 10,u 11,.int .i64 e,.int .i64 at_,u 14,u 15,u 16,u 17,u 18,u 19,u 20,u 21,u 22,u 23,u 24,u 25,u 26,u 27,u 28,u 29,u 30,u 31,u 32,u 33,u 34,u 35,u 36,u 37,u 38,u 39,u 40,u 41,u 42,u 43,u 44,u 45,u 46,u 47,u 48,u 49,u 50,u 51,u 52,u 53,u 54,u 55,u 56,u 57,u 58,u 59,u 60,u 61,u 62,u 63,u 64,u 65,u 66,u 67,u 68,u 69,u 70,u 71,u 72,u 73,u 74,u 75,u 76,u 77,u 78,u 79,u 80,u 81,u 82,u 83,u 84,u 85,u 86,u 87,u 88,u 89,u 90,u 91,u 92,u 93,u 94,u 95,u 96,u 97,u 98,u 99,u 100,u 101,u 102,u 103,u 104,u 105,u 106,u 107,u 108,u 109,u 110,u 111,u 112,u 113,u 114,u 115,u 116,u 117,u 118,u 119,u 120,u 121,u 122,u 123,u 124,u 125,u 126,u 127,u 128,u 129,u 130],defers:=[]}/\
  Hid (G=(s,{qX with err:=e,at_:=at_},none,e))/\Hid (w'.heap[w.heap.size]? =some (.cells cs 52 (0,0)))/\Hid (w'.heap[w.heap.size+1+1]? =some (.cells c 52 (0,0)))/\Hid (w'.heap[w.heap.size+1+1+1]? =some (.cells #[.int .i64 0,.complex .f64 0 0,.bool false,.int .i64 0,.int .i64 0,.string ⟨#[]⟩,.bool false,.int .i64 0] 36 (0,0)))/\Hid (w'.heap[w.heap.size+1+1+1+1]? =some (.cells b 58 (0,0)))/\Hid (Below w.heap.size w w')
theorem Mf(g:List Gv)(p:Po):Cm.QP (qV g p).1.1/\(qV g p).1.2.length<=600000:=by
 unfold qV;split
 .exact⟨⟨qe,qe⟩,qe⟩
 .rename_i h;exact⟨zG (uX g 4 p),lT (yI g 4 p (MF (by simpa using h))) (Xh 4 qe)⟩
theorem vM(g:List Gv)(p:Po):Cm.QP (gD g p).1.1/\(gD g p).1.2.length<=600000:=by
 unfold gD;split
 .exact⟨⟨qe,qe⟩,qe⟩
 .exact Mf g _
def lF(w:World)(cs os t y:Array Value)(z:Option (Array Value))(w':World):Prop:=w'.heap[w.heap.size]? =some (.cells cs 52 (0,0))/\w'.heap[w.heap.size+1]? =some (.cells os 39 (0,0))/\w'.heap[w.heap.size+1+1]? =some (.cells #[.int .i64 0,.slice none 0 0,.slice none 0 0,.slice none 0 0,.slice none 0 0,.string ⟨#[]⟩,.bool false,.int .i64 0,.slice none 0 0,.slice none 0 0,.slice none 0 0,.slice none 0 0,.int .i64 0] 52 (0,0))/\w'.heap[w.heap.size+1+1+1]? =some (.cells #[.int .i64 0,.complex .f64 0 0,.bool false,.int .i64 0,.int .i64 0,.string ⟨#[]⟩,.bool false,.int .i64 0] 36 (0,0))/\w'.heap[w.heap.size+1+1+1+1]? =some (.cells pG 58 (0,0))/\w'.heap[w.heap.size+1+1+1+1+1]? =some (.cells t 82 (0,0))/\w'.heap[w.heap.size+1+1+1+1+1+1]? =some (.cells y 36 (0,0))/\Below w.heap.size w w'/\∀zz,z=some zz->w'.heap[w.heap.size+1+1+1+1+1+1+1]? =some (.cells zz 52 (0,0))
section
variable {w w1 w2:World} {cs os t y:Array Value} {z:Option (Array Value)}
theorem lF.stays(h:lF w cs os t y z w1){q:nP}(c:aN q w1 w2)(a:∀b,b<=w.heap.size+7->q b):lF w cs os t y z w2:=by
 obtain⟨h0,h1,h2,h3,h4,h5,h6,f,g⟩:=h;exact⟨aF h0 c (a _ qo),aF h1 c (a _ qo),aF h2 c (a _ qo),aF h3 c (a _ qo),aF h4 c (a _ qo),aF h5 c (a _ qo),aF h6 c (a _ qo),((aJ (ok:=fun b=>b<w.heap.size) f).trans (c.mono (fun b _ d=>a b qo))).below (fun k d=>⟨d,d⟩),fun zz e=>aF (g zz e) c (a _ qo)⟩
theorem lF.noz(h:lF w cs os t y z w1):lF w cs os t y none w1:=⟨h.1,h.2.1,h.2.2.1,h.2.2.2.1,h.2.2.2.2.1,h.2.2.2.2.2.1,h.2.2.2.2.2.2.1,h.2.2.2.2.2.2.2.1,fun _ e=>(by cases e)⟩
theorem lF.off(h:lF w cs os t y none w1){q:nP}(c:aN q w1 w2)(a:∀b,b<=w.heap.size+6->q b):lF w cs os t y none w2:=by
 obtain⟨h0,h1,h2,h3,h4,h5,h6,f,_⟩:=h;exact⟨aF h0 c (a _ qo),aF h1 c (a _ qo),aF h2 c (a _ qo),aF h3 c (a _ qo),aF h4 c (a _ qo),aF h5 c (a _ qo),aF h6 c (a _ qo),((aJ (ok:=fun b=>b<w.heap.size) f).trans (c.mono (fun b _ d=>a b qo))).below (fun k d=>⟨d,d⟩),fun _ e=>(by cases e)⟩
theorem lF.on(h:lF w cs os t y z w1)(a:Below w1.heap.size w1 w2):lF w cs os t y z w2:=h.stays (aJ (ok:=fun _=>True) a) (fun _ _=>trivial)
theorem lF.aE3(h:lF w cs os t y z w1)(c:aN (fun b=>b≠w.heap.size+1+1+1+1+1) w1 w2){t2:Array Value}(g:w2.heap[w.heap.size+1+1+1+1+1]? =some (.cells t2 82 (0,0))):lF w cs os t2 y z w2:=by
 obtain⟨h0,h1,h2,h3,h4,h5,h6,f,i⟩:=h;have a:∀{b},b≠w.heap.size+5->b≠w.heap.size+1+1+1+1+1:=fun h=>h
 exact⟨aF h0 c (a qo),aF h1 c (a qo),aF h2 c (a qo),aF h3 c (a qo),aF h4 c (a qo),g,aF h6 c (a qo),((aJ (ok:=fun b=>b<w.heap.size) f).trans (c.mono (fun b _ d=>a qo))).below (fun k d=>⟨d,d⟩),fun zz e=>aF (i zz e) c (a qo)⟩
theorem lF.aEN(h:lF w cs os t y z w1)(c:aN (fun b=>b≠w.heap.size+1+1+1+1+1+1) w1 w2){f:Array Value}(i:w2.heap[w.heap.size+1+1+1+1+1+1]? =some (.cells f 36 (0,0))):lF w cs os t f z w2:=by
 obtain⟨h0,h1,h2,h3,h4,h5,h6,g,j⟩:=h;have a:∀{b},b≠w.heap.size+6->b≠w.heap.size+1+1+1+1+1+1:=fun h=>h
 exact⟨aF h0 c (a qo),aF h1 c (a qo),aF h2 c (a qo),aF h3 c (a qo),aF h4 c (a qo),aF h5 c (a qo),i,((aJ (ok:=fun b=>b<w.heap.size) g).trans (c.mono (fun b _ d=>a qo))).below (fun k d=>⟨d,d⟩),fun zz e=>aF (j zz e) c (a qo)⟩
end
def oR(s:Sto)(o:Op):Int×Int:=if dO s o=0/\o.aDG=7 then (fG o.text).2 else (dO s o,0)
theorem MK{s:Sto}{o:Op}(h:(oR s o).1≠0):bZ s o=(s,{qX with err:=(oR s o).1,at_:=(oR s o).2},none,(oR s o).1):=iP h
theorem ML{s:Sto}{o:Op}(h:(oR s o).1=0)(h2:(gD (lM s o) s.aDI).2≠0):bZ s o=(s,{qX with err:=(gD (lM s o) s.aDI).2,at_:=(oR s o).2},none,(gD (lM s o) s.aDI).2):=(iN (fun e=>e h)).trans (iP h2)
abbrev RG:Array Value:=#[.int .i64 0,.complex .f64 0 0,.bool false,.int .i64 0,.int .i64 0,.string ⟨#[]⟩,.bool false,.int .i64 0]
theorem JW{w:World}{vs d:Value}{G:Sto×Rpl×Option Deci×Int}{s:Sto}{cs c b:Array Value}{a:Act}{w':World}(e at_:Int)(ha:a={tmps:=#[vs,d,.pointer (some ⟨w.heap.size,0,none⟩),.pointer (some ⟨w.heap.size+1,0,none⟩),.pointer (some ⟨w.heap.size+1+1,0,none⟩),.pointer (some ⟨w.heap.size+1+1+1,0,none⟩),.pointer (some ⟨w.heap.size+1+1+1+1,0,none⟩),gT a 7,gT a 8,gT a 9,gT a 10,gT a 11,.int .i64 e,.int .i64 at_,gT a 14,gT a 15,gT a 16,gT a 17,gT a 18,gT a 19,gT a 20,gT a 21,gT a 22,gT a 23,gT a 24,gT a 25,gT a 26,gT a 27,gT a 28,gT a 29,gT a 30,gT a 31,gT a 32,gT a 33,gT a 34,gT a 35,gT a 36,gT a 37,gT a 38,gT a 39,gT a 40,gT a 41,gT a 42,gT a 43,gT a 44,gT a 45,gT a 46,gT a 47,gT a 48,gT a 49,gT a 50,gT a 51,gT a 52,gT a 53,gT a 54,gT a 55,gT a 56,gT a 57,gT a 58,gT a 59,gT a 60,gT a 61,gT a 62,gT a 63,gT a 64,gT a 65,gT a 66,gT a 67,gT a 68,gT a 69,gT a 70,gT a 71,gT a 72,gT a 73,gT a 74,gT a 75,gT a 76,gT a 77,gT a 78,gT a 79,gT a 80,gT a 81,gT a 82,gT a 83,gT a 84,gT a 85,gT a 86,gT a 87,gT a 88,gT a 89,gT a 90,gT a 91,gT a 92,gT a 93,gT a 94,gT a 95,gT a 96,gT a 97,gT a 98,gT a 99,gT a 100,gT a 101,gT a 102,gT a 103,gT a 104,gT a 105,gT a 106,gT a 107,gT a 108,gT a 109,gT a 110,gT a 111,gT a 112,gT a 113,gT a 114,gT a 115,gT a 116,gT a 117,gT a 118,gT a 119,gT a 120,gT a 121,gT a 122,gT a 123,gT a 124,gT a 125,gT a 126,gT a 127,gT a 128,gT a 129,gT a 130],defers:=[]})
 (h:Hid (G=(s,{qX with err:=e,at_:=at_},none,e))/\Hid (w'.heap[w.heap.size]? =some (.cells cs 52 (0,0)))/\Hid (w'.heap[w.heap.size+1+1]? =some (.cells c 52 (0,0)))/\Hid (w'.heap[w.heap.size+1+1+1]? =some (.cells RG 36 (0,0)))/\Hid (w'.heap[w.heap.size+1+1+1+1]? =some (.cells b 58 (0,0)))/\Hid (Below w.heap.size w w')):XB w vs d G s cs c b a w':=
 ⟨e,at_,fun n=>a.tmps.getD n undef,ha,h⟩
def oF(s:Sto)(o:Op)(m:Mk)(l:List Ob)(b a:Bool):Rpl:=
 let hidden:=a&&(decide (o.aDG=2)&&l.any (fun x=>decide (x.aDG=2)&&decide (x.arg=o.aD1)))
 let val:=if a&&(decide (o.aDG=2)&& !hidden) then ((eW s o.aDN).map (fun c=>gL c o.aD1)).getD bD else bD
 ⟨if a then 0 else 12,m,b,val,hidden,0⟩
theorem MM{s:Sto}{o:Op}{R:(Mk×List Ob)×Int}(hp:(oR s o).1=0)(f:R=gD (lM s o) s.aDI)(h2:R.2=0){a:Bool}(j:a=gS s o R.1.1){d b:Bool}(g:decide (R.1.1=(4,0))=d)(i:b=(d||a)){c:Sto}(k:c=if a=true then fT s o o.aD4 else s){s2:Sto}(n:s2=R.1.2.foldl (dB o b) (if b=true then dA c o else c)):
 bZ s o=if kC s2=true then (s,{qX with err:=6,at_:=(oR s o).2},none,6) else (s2,oF s o R.1.1 R.1.2 a b,some ⟨o,s.aDT,R.1.1,a,R.1.2⟩,0):=by
 rw[AD];refine(iN (fun e=>e hp)).trans ?_;unfold Al;rw[<-f];obtain⟨⟨m,l⟩,e⟩:=R;dsimp only at *;rw[iN (fun e=>e h2),<-j,g,<-i,<-k,<-n];rfl
theorem aAp(s:Sto)(o:Op)(m:Mk)(l:List Ob)(a:Bool):dZ (oF s o m l a false)=#[.int .i64 12,.complex .f64 (Cm.qb m.1) (Cm.qb m.2),.bool a,.int .i64 0,.int .i64 0,.string ⟨#[]⟩,.bool false,.int .i64 0]:=rfl
theorem Mg(s:Sto)(o:Op)(m:Mk)(l:List Ob)(a:Bool)(h:o.aDG≠2):dZ (oF s o m l a true)=#[.int .i64 0,.complex .f64 (Cm.qb m.1) (Cm.qb m.2),.bool a,.int .i64 0,.int .i64 0,.string ⟨#[]⟩,.bool false,.int .i64 0]:=by
 unfold oF dZ;simp only[dF h,Bool.false_and,Bool.and_false,Bool.false_eq_true,if_false,if_true];rfl
theorem Xk(s:Sto)(o:Op)(m:Mk)(l:List Ob)(a:Bool)(h:o.aDG=2)(b:l.any (fun x=>decide (x.aDG=2)&&decide (x.arg=o.aD1))=true):dZ (oF s o m l a true)=#[.int .i64 0,.complex .f64 (Cm.qb m.1) (Cm.qb m.2),.bool a,.int .i64 0,.int .i64 0,.string ⟨#[]⟩,.bool true,.int .i64 0]:=by
 unfold oF dZ;simp only[dX h,b,Bool.true_and,Bool.not_true,Bool.false_eq_true,if_false,if_true];rfl
theorem Xl(s:Sto)(o:Op)(m:Mk)(l:List Ob)(a:Bool)(h:o.aDG=2)(b:l.any (fun x=>decide (x.aDG=2)&&decide (x.arg=o.aD1))=false){v:V3}(d:v=((eW s o.aDN).map (fun c=>gL c o.aD1)).getD bD):dZ (oF s o m l a true)=#[.int .i64 0,.complex .f64 (Cm.qb m.1) (Cm.qb m.2),.bool a,.int .i64 v.1,.int .i64 v.2.1,.string v.2.2,.bool false,.int .i64 0]:=by
 unfold oF dZ;simp only[dX h,b,Bool.true_and,Bool.not_false,if_true,d]
def mH(ok:nP)(w:World)(cs os t y:Array Value)(vd:Value)(l:List Ob)(s1:Sto)(w':World):Prop:=
 ∃(K:nP) (base:Nat),(∀b,K b->(ok b/\b<w.heap.size)\/w.heap.size+8<=b)/\w.heap.size+8<=base/\iG K base (w.heap.size+1+1+1+1+1+1+1) w' w' s1/\lF w cs os t y none w'/\aH kB w' (fun b=>w.heap.size+8<=b/\b<base) vd l
section
variable {ok:nP} {w wa w':World} {cs os t y:Array Value} {vd:Value} {l:List Ob} {s1:Sto}
theorem mH.aEh(h:mH ok w cs os t y vd l s1 wa):lF w cs os t y none wa:=by obtain⟨_,_,_,_,_,h,_⟩:=h;exact h
theorem mH.obs(h:mH ok w cs os t y vd l s1 wa):aH kB wa (fun b=>w.heap.size+8<=b) vd l:=by obtain⟨_,_,_,_,_,_,h⟩:=h;exact h.more aO fun b a=>a.1
theorem mH.on(h:mH ok w cs os t y vd l s1 wa)(a:Below wa.heap.size wa w'):mH ok w cs os t y vd l s1 w':=by
 obtain⟨K,base,h1,h2,⟨L,ro,vc,vr,vn,vo,vt,vu,vk,vb,h3,h4,_⟩,h5,h6⟩:=h;exact⟨K,base,h1,h2,⟨L,ro,vc,vr,vn,vo,vt,vu,vk,vb,aE h3 a,h4.on a,aN.refl _ _⟩,h5.on a,aH.on aO h6 a⟩
theorem mH.at(h:mH ok w cs os t y vd l s1 wa)(d:aN (fun b=>b≠w.heap.size+1+1+1+1+1+1) wa w'){e:Array Value}(f:w'.heap[w.heap.size+1+1+1+1+1+1]? =some (.cells e 36 (0,0))):mH ok w cs os t e vd l s1 w':=by
 obtain⟨K,base,h1,h2,⟨L,ro,vc,vr,vn,vo,vt,vu,vk,vb,h3,h4,_⟩,h5,h6⟩:=h;have c:∀{b},b≠w.heap.size+6->b≠w.heap.size+1+1+1+1+1+1:=fun h=>h
 exact⟨K,base,h1,h2,⟨L,ro,vc,vr,vn,vo,vt,vu,vk,vb,aF h3 d (c qo),h4.stays d (fun b a=>c (by rcases h1 b a with h|h<;>omega)) (fun b a _=>c qo),aN.refl _ _⟩,h5.aEN d f,aH.aDQ aO h6 (d.mono fun b _ a=>c (qA a.1))⟩
theorem bC.one{K:nP}{base:Nat}{s:Sto}{L:List Mix}{ro:Option Value}{vc vr vn vo vt vu vk vb:Value}(h:bC K base w s L ro vc vr vn vo vt vu vk vb):(aV s vc vr vn vo vt vu vk vb).all (·.oneCell')=true:=by
 obtain⟨_,_,rfl⟩:=h.aDH.slice;obtain⟨_,_,rfl⟩:=h.aDJ.slice;obtain⟨_,_,rfl⟩:=h.aDO.slice;obtain⟨_,_,rfl,_⟩:=(h.aDU.sl dD).slice;obtain⟨_,_,rfl,-⟩:=h.aDI.2.2.1.slice;obtain⟨_,_,rfl,-⟩:=h.aDI.2.2.2.1.slice;obtain⟨_,_,rfl,-⟩:=h.aDI.2.2.2.2.1.slice;obtain⟨_,_,rfl,-⟩:=h.aDI.2.2.2.2.2.slice;simp[aV,Value.oneCell']
end
theorem aA6{o:Option cH}{w:World}{e:Ending}{w':World}(h:AK o w e w')(g:∀c,o=some c->Qk c):∃c a d b,e=.returned (.tuple #[.agg #[.string c.id,.string c.aEa,.string c.aD2,a,d],.bool b])/\pA w' (fun _=>True) c a d/\(∀N,(o.map (fun c=>gL c N)).getD bD=gL c N)/\Below w.heap.size w w':=by
 rcases h with ⟨rfl,rfl,f⟩|⟨c,a,d,rfl,rfl,h⟩
 .exact⟨⟨⟨#[]⟩,⟨#[]⟩,⟨#[]⟩,[],[]⟩,_,_,_,rfl,⟨qe,qe,qe,aH.nil,aH.nil⟩,fun _=>rfl,f⟩
 .exact⟨c,a,d,_,rfl,(JP h (g c rfl)).more (fun _ _=>trivial),fun _=>rfl,h.2.2⟩
theorem Bq{n:Nat}{s:Sto}(h:kL n s)(i:Nat)(f:cH->cH)(e:∀c,(f c).log.length<=c.log.length+1):kL (n+1) (fH s i f):=
 ⟨by rw[AX];exact Nat.le_succ_of_le h.aDH,Nat.le_succ_of_le h.aDJ,Nat.le_succ_of_le h.aDO,fun c a=>by
   rcases LK a with h1|⟨d,b,rfl⟩
   .exact Nat.le_succ_of_le (h.aD9 c h1)
   .have:=h.aD9 d (List.mem_of_getElem? b);have:=e d;omega⟩
theorem Mh{n:Nat}{s:Sto}(h:kL n s)(o:Op):kL (n+1) (dA s o):=by
 have h0:=h.more (Nat.le_succ n);unfold dA;dsimp only;split
 .exact h0
 split
 .refine⟨?_,h0.aDJ,h0.aDO,fun c a=> ?_⟩
  .simp only[aL,List.length_take,List.length_drop,List.length_cons,List.length_nil];have:=h.aDH;omega
  .dsimp only at a;rw[List.append_assoc,List.mem_append,List.mem_append] at a
   rcases a with h1|h1|h1
   .exact h0.aD9 c (List.mem_of_mem_take h1)
   .rw[List.mem_singleton] at h1;rw[h1];show 1<=n+1;omega
   .exact h0.aD9 c (List.mem_of_mem_drop h1)
 split
 .exact Bq h _ _ (fun c=>by rw[xQ];unfold oK;simp)
 split
 .exact Bq h _ _ (fun c=>by unfold oK;simp)
 split
 .refine⟨h0.aDH,?_,h0.aDO,h0.aD9⟩;dsimp only;split
  .rw[List.length_set];exact h0.aDJ
  .exact h0.aDJ
 split
 .split
  .exact h0
  .exact⟨h0.aDH,h0.aDJ,h0.aDO,h0.aD9⟩
 split
 .split
  .exact⟨h0.aDH,h0.aDJ,h0.aDO,h0.aD9⟩
  .exact h0
 split
 .exact⟨h0.aDH,h0.aDJ,h0.aDO,h0.aD9⟩
 .exact h0
def XC(w:World)(cs os t y x:Array Value)(w':World):Prop:=w'.heap[w.heap.size]? =some (.cells cs 52 (0,0))/\w'.heap[w.heap.size+1]? =some (.cells os 39 (0,0))/\w'.heap[w.heap.size+1+1+1+1+1]? =some (.cells t 82 (0,0))/\w'.heap[w.heap.size+1+1+1+1+1+1]? =some (.cells y 36 (0,0))/\w'.heap[w.heap.size+1+1+1+1+1+1+1]? =some (.cells x 52 (0,0))
theorem nF{w1 w2:World}{n b i j:Nat}{O:Obj}(h:w1.heap[b]? =some O){g:Nat}(a:aN (fun b=>b≠g) w1 w2)(c:b=n+i)(d:g=n+j)(e:i≠j):w2.heap[b]? =some O:=aF h a (show b≠g by omega)
theorem XC.off{w w1 w2:World}{cs os t y x:Array Value}(h:XC w cs os t y x w1){g j:Nat}(c:aN (fun b=>b≠g) w1 w2)(a:g=w.heap.size+j)(hj:2<=j/\j<=4):XC w cs os t y x w2:=
 ⟨nF h.1 c (i:=0) rfl a qo,nF h.2.1 c (i:=1) rfl a qo,nF h.2.2.1 c (i:=5) rfl a qo,nF h.2.2.2.1 c (i:=6) rfl a qo,nF h.2.2.2.2 c (i:=7) rfl a qo⟩
theorem Mi{w w1 w2:World}(h:Below w.heap.size w w1)(c:aN (fun b=>b≠w.heap.size+2/\b≠w.heap.size+3/\b≠w.heap.size+4) w1 w2):Below w.heap.size w w2:=
 ((aJ (ok:=fun b=>b<w.heap.size) h).trans (c.mono fun b _ d=>⟨qo,qo,qo⟩)).below (B:=w.heap.size) (fun k a=>⟨a,a⟩)
theorem aA7{n b:Nat}{p:Prop}(h:(p/\b<n)\/n+8<=b):b≠n+2/\b≠n+3/\b≠n+4:=by rcases h with ⟨-,h⟩|h<;>exact⟨qo,qo,qo⟩
theorem Ry{n b base:Nat}(h:n+8<=base)(a:base<=b):b≠n+2/\b≠n+3/\b≠n+4:=⟨qo,qo,qo⟩
theorem aAq{n b:Nat}(h:n+8<=b):b≠n+2/\b≠n+3/\b≠n+4:=⟨qo,qo,qo⟩
theorem aAr{n b:Nat}(h:n+8<=b):n<=b:=qo
theorem aAs{n b base:Nat}{p:Prop}(h:n+8<=base)(a:((p/\b<n)\/n+8<=b)\/base<=b):(p/\b<n)\/n<=b:=by
 rcases a with (h1|h1)|h1
 .exact .inl h1
 .exact .inr qo
 .exact .inr qo
theorem FT{s:Sto}(h:AS s):kL 256 s:=⟨lT h.1.few qe,(AT.1 h.2).1,(AT.1 h.2).2.1,(AT.1 h.2).2.2⟩
theorem yJ{ok:nP}(s:Sto)(vc vr vn vo vt vu vk vb:Value)(o:Op)(ho:iF o)(w:World)(h:fD w ok s vc vr vn vo vt vu vk vb)(bt:iA w)(ij:AS s)(ie:s.aDU.length<=900000)(iq:0<=s.aDT/\s.aDT<=999999):
 Calls prog 10 #[.agg (aV s vc vr vn vo vt vu vk vb),eY o] w (FR ok (bZ s o) w):=by
 obtain⟨ca,cc,ra,rc,na,nc,oa,oc,ta,tc,ua,uc,ka,kc,ba,bc,rfl,-,rfl,-,rfl,-,rfl,-,rfl,-,rfl,-,rfl,-,rfl,-⟩:=h.sl;obtain⟨HS,fy,be,bx,e5,gg⟩:=hD6 h bt ij ho iq ie;obtain⟨G,hG⟩:=xE (bZ s o);rw[<-hG];have dh:=aA hG;obtain⟨W0,ay⟩:=xE ((((((((w.alloc (.cells (fU s ca cc ra rc na nc oa oc ta tc ua uc ka kc ba bc) 52)).alloc (.cells (rO o) 39)).alloc (.cells xO 52)).alloc (.cells RG 36)).alloc (.cells pG 58)).alloc (.cells #[.complex .f64 0 0,.slice none 0 0] 82)).alloc (.cells RG 36)).alloc (.cells xO 52));have cg:Hid (Below w.heap.size w W0):=aA (by rw[ay];exact aC (aC (aC (aC (aC (aC (aC (aB _ _) (aB _ _)) (aB _ _)) (aB _ _)) (aB _ _)) (aB _ _)) (aB _ _)) (aB _ _));have A:Hid (W0.heap[w.heap.size]? =some (.cells (fU s ca cc ra rc na nc oa oc ta tc ua uc ka kc ba bc) 52 (0,0))):=aA (by rw[ay];exact aE (aE (aE (aE (aE (aE (aE (aK _ _ _ qs) (aB _ _)) (aB _ _)) (aB _ _)) (aB _ _)) (aB _ _)) (aB _ _)) (aB _ _));have B:Hid (W0.heap[w.heap.size+1]? =some (.cells (rO o) 39 (0,0))):=aA (by rw[ay];exact aE (aE (aE (aE (aE (aE (aK _ _ _ qs) (aB _ _)) (aB _ _)) (aB _ _)) (aB _ _)) (aB _ _)) (aB _ _));have R1:Hid (W0.heap[w.heap.size+1+1]? =some (.cells xO 52 (0,0))):=aA (by rw[ay];exact aE (aE (aE (aE (aE (aK _ _ _ qs) (aB _ _)) (aB _ _)) (aB _ _)) (aB _ _)) (aB _ _));have R2:Hid (W0.heap[w.heap.size+1+1+1]? =some (.cells RG 36 (0,0))):=aA (by rw[ay];exact aE (aE (aE (aE (aK _ _ _ qs) (aB _ _)) (aB _ _)) (aB _ _)) (aB _ _));have R3:Hid (W0.heap[w.heap.size+1+1+1+1]? =some (.cells pG 58 (0,0))):=aA (by rw[ay];exact aE (aE (aE (aK _ _ _ qs) (aB _ _)) (aB _ _)) (aB _ _))
 have T:Hid (W0.heap[w.heap.size+1+1+1+1+1]? =some (.cells #[.complex .f64 0 0,.slice none 0 0] 82 (0,0))):=aA (by rw[ay];exact aE (aE (aK _ _ _ qs) (aB _ _)) (aB _ _));have Y:Hid (W0.heap[w.heap.size+1+1+1+1+1+1]? =some (.cells RG 36 (0,0))):=aA (by rw[ay];exact aE (aK _ _ _ qs) (aB _ _));have Z:Hid (W0.heap[w.heap.size+1+1+1+1+1+1+1]? =some (.cells xO 52 (0,0))):=aA (by rw[ay];exact aK _ _ _ qs);have fw:Hid (lF w (fU s ca cc ra rc na nc oa oc ta tc ua uc ka kc ba bc) (rO o) #[.complex .f64 0 0,.slice none 0 0] RG (some xO) W0):=aA ⟨A.o,B.o,R1.o,R2.o,R3.o,T.o,Y.o,cg.o,fun zz e=>by obtain rfl:=Option.some.inj e;exact Z.o⟩;have dm:=aA (h.on cg.o);have fz:=aA (bt.on cg.o);unfold pG at ay;have ha:=aA ay;clear ay;unfold eY bW aV;clear h bt ij ho iq ie hG;go_enter func10,ntmps10;go_wp2;obtain⟨JJ,e7⟩:∃JJ:Act->World->Prop,JJ=fun a' w'=>XB w (.agg #[.int .i64 s.aDP,.slice ca s.aDH.length cc,.slice ra s.aDJ.length rc,.slice na s.aDO.length nc,.slice oa s.aDU.length oc,.string s.aDI.id,.bool s.aDI.set,.int .i64 s.aDI.alg,.slice ta s.aDI.aDR.length tc,.slice ua s.aDI.aDK.length uc,.slice ka s.aDI.aDV.length kc,.slice ba s.aDI.aDX.length bc,.int .i64 s.aDT]) (.agg #[.int .i64 o.aDG,.string o.aDW,.string o.aDN,.string o.aD1,.string o.to_,.int .i64 o.val.1,.int .i64 o.val.2.1,.string o.val.2.2,.int .i64 o.aD3,.string o.text,.string o.aD4,.bool o.aD8]) G s (fU s ca cc ra rc na nc oa oc ta tc ua uc ka kc ba bc) xO pG a' w':=⟨_,rfl⟩
 refine uU 0 JJ (fun _ _=>0) rfl ?_ ?_
 .as_aux_lemma=>
  subst e7;rintro a' wr ⟨e,at_,u,rfl,jb,A,R1,R2,R3,HB⟩;have kg:¬(w.heap.size+1+1+1=w.heap.size+1+1):=qo;obtain⟨⟨a0,a1,a2,a3,a4,a5,a6,a7,a8,a9,cv,cw,a12⟩,-⟩:=bS A.o;have za:=aD A.o;go_wp2_with (first
   |(refine dP rfl _ (.tmp 4) (.tmp 125) rfl (w.heap.size+1+1) _ rfl rfl _ _ R1.o SW rfl (by simp[Value.oneCell']) ?_;intro w1 cp e2;replace R2:=qS R2 e2.o (by show (_:Nat)≠_;omega);replace R3:=qS R3 e2.o (by show (_:Nat)≠_;omega);clear a0 a1 a2 a3 a4 a5 a6 a7 a8 a9 cv cw a12 za)
   |(refine dP rfl _ (.tmp 5) (.tmp 128) rfl (w.heap.size+1+1+1) _ rfl rfl _ _ R2.o Uo rfl (by simp[Value.oneCell']) ?_;intro w2 cq e3;replace cp:=qS cp e3.o (by show (_:Nat)≠_;omega);replace R3:=aA (aF R3.o e3.o (by show (_:Nat)≠_;omega)))
   |(refine dP rfl _ (.tmp 6) (.tmp 129) rfl (w.heap.size+1+1+1+1) _ rfl rfl _ _ R3.o Up rfl (by simp[Value.oneCell']) ?_;intro w3 ji bg;replace cp:=qS cp bg.o (by show (_:Nat)≠_;omega);replace cq:=aA (aF cq.o bg.o (by show (_:Nat)≠_;omega))))
  have df:=aA (((aJ (ok:=fun b=>b<w.heap.size) HB.o).trans ((e2.o.mono (fun k _ hk=>by show (_:Nat)≠_;omega)).trans ((e3.o.mono (fun k _ hk=>by show (_:Nat)≠_;omega)).trans (bg.o.mono (fun k _ hk=>by show (_:Nat)≠_;omega))))).below (B:=w.heap.size) (fun k hk=>⟨hk,hk⟩));obtain⟨⟨a0,a1,a2,a3,a4,a5,a6,a7,a8,a9,cv,cw,a12⟩,-⟩:=bS cp.o;obtain⟨⟨b0,b1,b2,b3,b4,b5,b6,b7⟩,-⟩:=mP cq.o;obtain⟨⟨c0,c1,c2,c3,c4,c5,c6,c7,c8,c9,jt,ju,c12,jv,jw,jx⟩,-⟩:=kV ji.o;unfold Exit.jump;refine bR (.tuple #[.agg #[.int .i64 s.aDP,.slice ca s.aDH.length cc,.slice ra s.aDJ.length rc,.slice na s.aDO.length nc,.slice oa s.aDU.length oc,.string s.aDI.id,.bool s.aDI.set,.int .i64 s.aDI.alg,.slice ta s.aDI.aDR.length tc,.slice ua s.aDI.aDK.length uc,.slice ka s.aDI.aDV.length kc,.slice ba s.aDI.aDX.length bc,.int .i64 s.aDT],.agg #[.int .i64 e,.complex .f64 0 0,.bool false,.int .i64 0,.int .i64 0,.string ⟨#[]⟩,.bool false,.int .i64 at_],.agg pG,.int .i64 e]) ?_;have eu:=jb.o;subst eu;exact⟨.slice ca s.aDH.length cc,.slice ra s.aDJ.length rc,.slice na s.aDO.length nc,.slice oa s.aDU.length oc,.slice ta s.aDI.aDR.length tc,.slice ua s.aDI.aDK.length uc,.slice ka s.aDI.aDV.length kc,.slice ba s.aDI.aDX.length bc,.agg pG,rfl,(HS.o.inb.aDQ ((aJ df.o).mono (fun k _ hk=>hk.2))).more (fun b d=> .inl d),rfl,df.o⟩
 .intro _;have bl:=aA (aD Z.o);have ev:=aA e7;clear e7;obtain⟨⟨a0,a1,a2,a3,a4,a5,a6,a7,a8,a9,cv,cw,a12⟩,-⟩:=bS A.o;obtain⟨⟨b0,b1,b2,b3,b4,b5,b6,b7,b8,b9,jr,js⟩,-⟩:=bM B.o;have zA:=aD A.o;have zB:=aD B.o;go_upto_region 5 with (fail)
  rw[<-ha.o];go_wp2_with fail;refine(LL s _ _ _ _ _ _ _ _ o bx.o W0 dm.o).mono ?_;rintro e w1 ⟨rfl,bh⟩;have AA:=A;have BB:=B;clear a0 a1 a2 a3 a4 a5 a6 a7 a8 a9 cv cw a12 b0 b1 b2 b3 b4 b5 b6 b7 b8 b9 jr js zA zB;replace AA:=qK AA bh;obtain⟨⟨J,L,Q,S,U,V,W,X,aa,ab,M,O,P⟩,_⟩:=bS AA.o;have ad:=aD AA.o;replace BB:=qK BB bh;obtain⟨⟨f,l,q,r,t,y,z,D,E,F,m,p⟩,_⟩:=bM BB.o;have H:=aD BB.o;replace bh:=aA bh;go_upto_region 6 with (fail)
  go_cut [25] from 19 to 25 (fun v w'=>w'=w1/\∃b:Bool,v=.bool b/\Hid (b=decide (dO s o=0/\o.aDG=7)))
  case first=>as_aux_lemma=>
   by_cases hE:dO s o=0
   .by_cases hK:o.aDG=7
    .go_wp2
     all_goals go_meet
     all_goals exact⟨rfl,_,rfl,aA (by simp[hE,hK])⟩
    .go_wp2
     all_goals go_meet
     all_goals exact⟨rfl,_,rfl,aA (by simp[hE,hK])⟩
   .go_wp2
    all_goals go_meet
    all_goals exact⟨rfl,_,rfl,aA (by simp[hE])⟩
  case rest=>
  obtain⟨hw,b,hv,HB⟩:=hcut;have hw:=hw.symm;subst hw hv;go_upto_if 25 with (fail)
  go_cut [12,13] from 26 to 32 (fun v12 j1 w'=>v12=.int .i64 (oR s o).1/\j1=.int .i64 (oR s o).2/\Hid (Below W0.heap.size W0 w'))
  case first=>as_aux_lemma=>
   cases b
   .go_wp2
    all_goals go_meet
    have hc:=HB.o;exact⟨by unfold oR;rw[iN (fun e=>by rw[dX e] at hc;exact Bool.noConfusion hc)],by unfold oR;rw[iN (fun e=>by rw[dX e] at hc;exact Bool.noConfusion hc)],bh⟩
   .go_wp2_with (go_at_call 23;refine(sG o.text _ (fz.o.on bh.o)).mono ?_;rintro e wp ⟨vp,rfl,jz,ep⟩;replace ep:=aA ep;clear jz)
    all_goals go_meet
    have hc:=HB.o;exact⟨by unfold oR;rw[iP (of_decide_eq_true hc.symm)],by unfold oR;rw[iP (of_decide_eq_true hc.symm)],aA (aC bh.o ep.o)⟩
  case rest=>
  clear J L Q S U V W X aa ab M O P ad;clear f l q r t y z D E F m p H;obtain⟨rfl,rfl,bm⟩:=hcut;clear HB bh;have gq:=qB cg bm.o;go_upto_if 34 with (fail)
  by_cases ik:(oR s o).1=0
  .skip
   have gp:=aA ik;go_upto_region 9 with (fail)
   have HK:=aA bm.o.drew;have a:Hid (wc.drew.heap[w.heap.size]? =some (.cells (fU s ca cc ra rc na nc oa oc ta tc ua uc ka kc ba bc) 52 (0,0))/\wc.drew.heap[w.heap.size+1]? =some (.cells (rO o) 39 (0,0))):=aA ⟨aE A.o HK.o,aE B.o HK.o⟩;refine cF 10 [(0,false),(1,false),(2,false),(3,false),(4,true),(5,true),(6,false),(7,false),(8,false),(9,true)] [(10,true)] (fun w'=>w'.heap[w.heap.size]? =some (.cells (fU s ca cc ra rc na nc oa oc ta tc ua uc ka kc ba bc) 52 (0,0))/\w'.heap[w.heap.size+1]? =some (.cells (rO o) 39 (0,0))) (by decide +kernel) (by decide +kernel) a.o ?_;simp only[List.cons_append,List.nil_append];obtain⟨⟨J,L,Q,S,U,V,W,X,aa,ab,M,O,P⟩,-⟩:=bS (a.o).1;obtain⟨⟨f,l,q,r,t,y,z,D,E,F,m,p⟩,-⟩:=bM (a.o).2;have ad:=aD (a.o).1;have H:=aD (a.o).2
   repeat (refine dK rfl (fun K hK=> ?_);unfold rd;go_simp;refine hK _ (fun eo h1=> ?_) ?_;(· clear hK K J L Q S U V W X aa ab M O P ad f l q r t y z D E F m p H;obtain⟨⟨J,L,Q,S,U,V,W,X,aa,ab,M,O,P⟩,-⟩:=bS (h1).1;obtain⟨⟨f,l,q,r,t,y,z,D,E,F,m,p⟩,-⟩:=bM (h1).2;have ad:=aD (h1).1;have H:=aD (h1).2;unfold rd;go_simp);clear hK K)
   refine bK rfl (fun K1 I=> ?_);unfold mv;go_simp;refine(Rm s _ _ _ _ _ _ _ _ o bx.o (fun c hc=>qA ((be.o.1.each c hc).aDM)) wc.drew (dm.o.on HK.o)).mono ?_;rintro e wa ⟨va,rfl,im,dw⟩;replace HK:=qB HK dw;replace a:=aA (And.intro (aE a.o.1 dw) (aE a.o.2 dw));have gz:=aA im;refine I _ _ (fun _=>a.o) ?_;clear I K1 im dw J L Q S U V W X aa ab M O P ad f l q r t y z D E F m p H;obtain⟨⟨J,L,Q,S,U,V,W,X,aa,ab,M,O,P⟩,-⟩:=bS a.o.1;obtain⟨⟨f,l,q,r,t,y,z,D,E,F,m,p⟩,-⟩:=bM a.o.2;have ad:=aD a.o.1;have H:=aD a.o.2;refine bK rfl (fun K1 I=> ?_);unfold mv;go_simp;refine(SL (lv:=3) (lR _) s.aDI _ _ _ _ va (lM s o) wa (dm.o.on HK.o).aDI gz.o).mono ?_;rintro e wi ⟨vd,rfl,eb,dx⟩;have iu:W0.heap.size<=wa.heap.size:=HK.o.size;obtain⟨R,hR⟩:=xE (gD (lM s o) s.aDI);rw[<-hR] at eb ⊢;have HR:=aA hR;clear hR;replace HK:=qB HK dx;replace a:=aA (And.intro (aE a.o.1 dx) (aE a.o.2 dx));obtain⟨da,dc,rfl,_⟩:=eb.slice;have af:=aA (aH.more aO eb (ok':=fun b=>W0.heap.size<=b) (fun b d=>lT iu d));clear iu;refine I _ _ (fun _=>a.o) ?_;clear I K1 eb dx gz J L Q S U V W X aa ab M O P ad f l q r t y z D E F m p H;obtain⟨⟨J,L,Q,S,U,V,W,X,aa,ab,M,O,P⟩,-⟩:=bS a.o.1;obtain⟨⟨f,l,q,r,t,y,z,D,E,F,m,p⟩,-⟩:=bM a.o.2;have ad:=aD a.o.1;have H:=aD a.o.2
   repeat (refine dK rfl (fun K hK=> ?_);unfold rd;go_simp;refine hK _ (fun eo h1=> ?_) ?_;(· clear hK K J L Q S U V W X aa ab M O P ad f l q r t y z D E F m p H;obtain⟨⟨J,L,Q,S,U,V,W,X,aa,ab,M,O,P⟩,-⟩:=bS h1.1;obtain⟨⟨f,l,q,r,t,y,z,D,E,F,m,p⟩,-⟩:=bM h1.2;have ad:=aD h1.1;have H:=aD h1.2;unfold rd;go_simp);clear hK K)
   have HD:=aA (fw.o.on HK.o);refine bK rfl (fun K1 I=> ?_);unfold mv;refine lD rfl _ (.tmp 8) (.tmp 42) rfl (w.heap.size+1+1+1+1+1) _ rfl rfl _ _ (aE T.o HK.o) aA5 rfl (by simp[Value.oneCell']) ?_;intro w3 HT bg;have hq:∀{b},b≠w.heap.size+5->b≠w.heap.size+1+1+1+1+1:=fun h=>h
   replace a:=aA (And.intro (aF a.o.1 bg.o (hq qo)) (aF a.o.2 bg.o (hq qo)));refine I _ _ (fun _=>a.o) ?_;replace af:=aA (aH.aDQ aO af.o (bg.o.mono (fun b _ d=>hq (by have:W0.heap.size<=b:=d;have:=bl.o;omega))));clear I K1 hq J L Q S U V W X aa ab M O P ad f l q r t y z D E F m p H;replace HD:=aA (HD.o.aE3 bg.o HT.o);refine bK rfl (fun K1 I=> ?_);unfold mv;go_simp;refine I _ _ (fun h=>absurd h qe) ?_;clear I K1;unfold cK;clear a;go_upto_if 45 with (fail)
   by_cases fo:R.2=0
   .skip
    have cq:=aA fo;go_upto_region 11 with (fail)
    have ax:=aA (HD.o.on (Below.refl _ _).drew);replace af:=aA (aH.on aO af.o (Below.refl _ _).drew);have a:Hid (w3.drew.heap[w.heap.size]? =some (.cells (fU s ca cc ra rc na nc oa oc ta tc ua uc ka kc ba bc) 52 (0,0))/\w3.drew.heap[w.heap.size+1]? =some (.cells (rO o) 39 (0,0))/\w3.drew.heap[w.heap.size+1+1+1+1+1]? =some (.cells #[.complex .f64 (Cm.qb R.1.1.1) (Cm.qb R.1.1.2),.slice da R.1.2.length dc] 82 (0,0))):=aA ⟨ax.o.1,ax.o.2.1,ax.o.2.2.2.2.2.1⟩;refine cF 10 [(0,false),(1,false),(2,false),(3,false),(4,false),(5,false),(7,false),(6,true),(8,true),(9,false)] [(10,true)] (fun w'=>w'.heap[w.heap.size]? =some (.cells (fU s ca cc ra rc na nc oa oc ta tc ua uc ka kc ba bc) 52 (0,0))/\w'.heap[w.heap.size+1]? =some (.cells (rO o) 39 (0,0))/\w'.heap[w.heap.size+1+1+1+1+1]? =some (.cells #[.complex .f64 (Cm.qb R.1.1.1) (Cm.qb R.1.1.2),.slice da R.1.2.length dc] 82 (0,0))) (by decide +kernel) (by decide +kernel) a.o ?_;simp only[List.cons_append,List.nil_append];obtain⟨⟨J,L,Q,S,U,V,W,X,aa,ab,M,O,P⟩,-⟩:=bS (a.o).1;obtain⟨⟨f,l,q,r,t,y,z,D,E,F,m,p⟩,-⟩:=bM (a.o).2.1;obtain⟨⟨ag,ah⟩,-⟩:=fM (a.o).2.2;have ad:=aD (a.o).1;have H:=aD (a.o).2.1;have ai:=aD (a.o).2.2
    repeat (refine dK rfl (fun K hK=> ?_);unfold rd;go_simp;refine hK _ (fun eo h1=> ?_) ?_;(· clear hK K J L Q S U V W X aa ab M O P ad f l q r t y z D E F m p H ag ah ai;obtain⟨⟨J,L,Q,S,U,V,W,X,aa,ab,M,O,P⟩,-⟩:=bS (h1).1;obtain⟨⟨f,l,q,r,t,y,z,D,E,F,m,p⟩,-⟩:=bM (h1).2.1;obtain⟨⟨ag,ah⟩,-⟩:=fM (h1).2.2;have ad:=aD (h1).1;have H:=aD (h1).2.1;have ai:=aD (h1).2.2;unfold rd;go_simp);clear hK K)
    refine bK rfl (fun K1 I=> ?_);unfold mv;go_simp;refine(ZQ s _ _ _ _ _ _ _ _ o R.1.1 (HR.o▸(vM _ _).1) w3.drew (HS.o.on ax.o.2.2.2.2.2.2.2.1) (fun x hx=>⟨(be.o.1.aEl x hx).1,(be.o.1.aEl x hx).2,be.o.1.aDP.2⟩)).mono ?_;rintro e wb ⟨rfl,fh⟩;obtain⟨gl,bt⟩:=xE (gS s o R.1.1);rw[<-bt];have jd:=aA bt;clear bt;replace ax:=aA (ax.o.on fh);replace af:=aA (aH.on aO af.o fh);replace a:=aA (And.intro ax.o.1 (And.intro ax.o.2.1 ax.o.2.2.2.2.2.1));refine I _ _ (fun _=>a.o) ?_;clear I K1 fh J L Q S U V W X aa ab M O P ad f l q r t y z D E F m p H ag ah ai;obtain⟨⟨J,L,Q,S,U,V,W,X,aa,ab,M,O,P⟩,-⟩:=bS (a.o).1;obtain⟨⟨f,l,q,r,t,y,z,D,E,F,m,p⟩,-⟩:=bM (a.o).2.1;obtain⟨⟨ag,ah⟩,-⟩:=fM (a.o).2.2;have ad:=aD (a.o).1;have H:=aD (a.o).2.1;have ai:=aD (a.o).2.2;obtain⟨⟨Y0,Y1,Y2,Y3,Y4,Y5,Y6,Y7⟩,aj,ak,an,ao,aq,ar,au,av⟩:=mP ax.o.2.2.2.2.2.2.1;have zY:=aD ax.o.2.2.2.2.2.2.1;have il:=uL;refine bK rfl (fun K1 I=> ?_);unfold mv;go_simp;clear il;generalize ft:wb.setCell ⟨w.heap.size+1+1+1+1+1+1,1,none⟩ (.complex .f64 (Cm.qb R.1.1.1) (Cm.qb R.1.1.2))=w4;have bj:Hid (lF w (fU s ca cc ra rc na nc oa oc ta tc ua uc ka kc ba bc) (rO o) #[.complex .f64 (Cm.qb R.1.1.1) (Cm.qb R.1.1.2),.slice da R.1.2.length dc] #[.int .i64 0,.complex .f64 (Cm.qb R.1.1.1) (Cm.qb R.1.1.2),.bool false,.int .i64 0,.int .i64 0,.string ⟨#[]⟩,.bool false,.int .i64 0] (some xO) w4):=aA (by rw[<-ft];exact ax.o.aEN (aI _) (aG ax.o.2.2.2.2.2.2.1 1 _));replace af:Hid (aH kB w4 (fun b=>W0.heap.size<=b) (.slice da R.1.2.length dc) R.1.2):=aA (by rw[<-ft];exact aH.aDQ aO af.o ((aI _).mono (fun b _ d e=>by have:W0.heap.size<=b:=d;have:=bl.o;omega)))
    clear ft;replace a:=aA (And.intro bj.o.1 (And.intro bj.o.2.1 bj.o.2.2.2.2.2.1));refine I _ _ (fun _=>a.o) ?_;clear I K1 ax J L Q S U V W X aa ab M O P ad f l q r t y z D E F m p H ag ah ai Y0 Y1 Y2 Y3 Y4 Y5 Y6 Y7 aj ak an ao aq ar au av zY;obtain⟨⟨J,L,Q,S,U,V,W,X,aa,ab,M,O,P⟩,-⟩:=bS (a.o).1;obtain⟨⟨f,l,q,r,t,y,z,D,E,F,m,p⟩,-⟩:=bM (a.o).2.1;obtain⟨⟨ag,ah⟩,-⟩:=fM (a.o).2.2;have ad:=aD (a.o).1;have H:=aD (a.o).2.1;have ai:=aD (a.o).2.2
    repeat (refine dK rfl (fun K hK=> ?_);unfold rd;go_simp;refine hK _ (fun eo h1=> ?_) ?_;(· clear hK K J L Q S U V W X aa ab M O P ad f l q r t y z D E F m p H ag ah ai;obtain⟨⟨J,L,Q,S,U,V,W,X,aa,ab,M,O,P⟩,-⟩:=bS (h1).1;obtain⟨⟨f,l,q,r,t,y,z,D,E,F,m,p⟩,-⟩:=bM (h1).2.1;obtain⟨⟨ag,ah⟩,-⟩:=fM (h1).2.2;have ad:=aD (h1).1;have H:=aD (h1).2.1;have ai:=aD (h1).2.2;unfold rd;go_simp);clear hK K)
    obtain⟨⟨Y0,Y1,Y2,Y3,Y4,Y5,Y6,Y7⟩,aj,ak,an,ao,aq,ar,au,av⟩:=mP bj.o.2.2.2.2.2.2.1;have zY:=aD bj.o.2.2.2.2.2.2.1;refine bK rfl (fun K1 I=> ?_);unfold mv;go_simp;generalize fu:w4.setCell ⟨w.heap.size+1+1+1+1+1+1,2,none⟩ (.bool gl)=w5;have ae:Hid (lF w (fU s ca cc ra rc na nc oa oc ta tc ua uc ka kc ba bc) (rO o) #[.complex .f64 (Cm.qb R.1.1.1) (Cm.qb R.1.1.2),.slice da R.1.2.length dc] #[.int .i64 0,.complex .f64 (Cm.qb R.1.1.1) (Cm.qb R.1.1.2),.bool gl,.int .i64 0,.int .i64 0,.string ⟨#[]⟩,.bool false,.int .i64 0] (some xO) w5):=aA (by rw[<-fu];exact bj.o.aEN (aI _) (aG bj.o.2.2.2.2.2.2.1 2 _));replace af:Hid (aH kB w5 (fun b=>W0.heap.size<=b) (.slice da R.1.2.length dc) R.1.2):=aA (by rw[<-fu];exact aH.aDQ aO af.o ((aI _).mono (fun b _ d e=>by have:W0.heap.size<=b:=d;have:=bl.o;omega)));clear fu;refine I _ _ (fun h=>absurd h qe) ?_;clear I K1 bj a J L Q S U V W X aa ab M O P ad f l q r t y z D E F m p H ag ah ai Y0 Y1 Y2 Y3 Y4 Y5 Y6 Y7 aj ak an ao aq ar au av zY;unfold cK;obtain⟨⟨J,L,Q,S,U,V,W,X,aa,ab,M,O,P⟩,-⟩:=bS (And.intro ae.o.1 (And.intro ae.o.2.1 ae.o.2.2.2.2.2.1)).1;obtain⟨⟨f,l,q,r,t,y,z,D,E,F,m,p⟩,-⟩:=bM (And.intro ae.o.1 (And.intro ae.o.2.1 ae.o.2.2.2.2.2.1)).2.1;obtain⟨⟨ag,ah⟩,-⟩:=fM (And.intro ae.o.1 (And.intro ae.o.2.1 ae.o.2.2.2.2.2.1)).2.2;have ad:=aD (And.intro ae.o.1 (And.intro ae.o.2.1 ae.o.2.2.2.2.2.1)).1;have H:=aD (And.intro ae.o.1 (And.intro ae.o.2.1 ae.o.2.2.2.2.2.1)).2.1;have ai:=aD (And.intro ae.o.1 (And.intro ae.o.2.1 ae.o.2.2.2.2.2.1)).2.2;obtain⟨⟨Y0,Y1,Y2,Y3,Y4,Y5,Y6,Y7⟩,aj,ak,an,ao,aq,ar,au,av⟩:=mP ae.o.2.2.2.2.2.2.1;have zY:=aD ae.o.2.2.2.2.2.2.1
    go_upto_region 12 with (fail)
    obtain⟨al,fg⟩:∃b,decide (R.1.1=((4,0):Mk))=b:=⟨_,rfl⟩;have e1:((FloatKind.f64.format.order (Cm.qb R.1.1.1) 4607182418800017408==some .eq)&&(FloatKind.f64.format.order (Cm.qb R.1.1.2) 0==some .eq))=al:=(Cm.iZ R.1.1.1 R.1.1.2 4 0 (HR.o▸(vM _ _).1) qe qe).trans ((sI R.1.1 (4,0)).trans fg);have iz:=aA fg;clear fg;go_cut [11] from 55 to 61 (fun v w'=>w'=w5/\v=.bool (al||gl))
    case first=>as_aux_lemma=>
     cases al
     .go_wp2
      all_goals go_meet
      all_goals exact⟨rfl,rfl⟩
     .go_wp2
      all_goals go_meet
      all_goals exact⟨rfl,rfl⟩
    case rest=>
    obtain⟨hw,hv⟩:=hcut;have hw:=hw.symm;subst hw hv;clear e1;obtain⟨dn,fk⟩:=xE ((al||gl));rw[<-fk];have i7:=aA fk;clear fk;go_wp2_with fail;refine(VG s _ _ _ _ _ _ _ _ w5 (HS.o.inb.on ae.o.2.2.2.2.2.2.2.1)).mono ?_;rintro e w6 hp;obtain⟨ko,ku,kr,L6,rfl,cy,db⟩:=Wo (HS.o.inb.on ae.o.2.2.2.2.2.2.2.1) hp;obtain⟨ke,kf,rfl⟩:=cy.aDH.slice;obtain⟨kj,kk,rfl⟩:=cy.aDJ.slice;obtain⟨kh,ki,rfl⟩:=cy.aDO.slice;obtain⟨hi,gj,fx⟩:=aY (aE (ae.o.2.2.2.2.2.2.2.2 _ rfl) db) cy (ae.o.noz.on db);replace af:=aA (aH.on aO (aH.inb aO af.o) db);have jq:=aA (show w5.heap.size<=w6.heap.size from db.size);have cf:=aA (show w.heap.size+7<w5.heap.size from qA (aD (ae.o.2.2.2.2.2.2.2.2 _ rfl)));unfold aV;clear hp cy db ae J L Q S U V W X aa ab M O P ad f l q r t y z D E F m p H ag ah ai Y0 Y1 Y2 Y3 Y4 Y5 Y6 Y7 aj ak an ao aq ar au av zY;go_upto_region 14 with (refine dP rfl _ (.tmp 10) (.tmp 63) rfl (w.heap.size+1+1+1+1+1+1+1) _ rfl rfl _ _ hi.o SW rfl (by simp[Value.oneCell']) ?_;intro w7 hj dq)
    have bb:∀{b},b≠w.heap.size+7->b≠w.heap.size+1+1+1+1+1+1+1:=fun h=>h
    have ch:Hid (iG (fun b=>(ok b/\b<w.heap.size)/\b<w5.heap.size) w5.heap.size (w.heap.size+1+1+1+1+1+1+1) w7 w7 s):=aA ⟨L6,none,_,_,_,_,_,_,_,_,hj.o,gj.o.stays dq.o (fun b d=>bb (qA d.1.2)) (fun b d _=>bb (qA cf.o)),aN.refl _ _⟩;have bu:=aA (fx.o.off dq.o (fun b d=>bb qo));replace af:=aA (aH.aDQ aO af.o (dq.o.mono (fun b _ d=>bb (by have:W0.heap.size<=b:=d.1;have:=bl.o;omega))));clear gj fx hi hj dq bb;obtain⟨⟨Y0,Y1,Y2,Y3,Y4,Y5,Y6,Y7⟩,aj,ak,an,ao,aq,ar,au,av⟩:=mP bu.o.2.2.2.2.2.2.1;have zY:=aD bu.o.2.2.2.2.2.2.1;go_upto_if 65 with (fail)
    clear Y0 Y1 Y2 Y3 Y4 Y5 Y6 Y7 aj ak an ao aq ar au av zY;have gu:=aA (show s.aDJ.length<=256 from (AT.1 be.o.2).1);go_cut [4] from 66 to 69 (fun v w'=>v=.pointer (some ⟨w.heap.size+1+1,0,none⟩)/\Hid (iG (fun b=>(ok b/\b<w.heap.size)/\b<w5.heap.size) w5.heap.size (w.heap.size+1+1+1+1+1+1+1) w7 w' (if gl then fT s o o.aD4 else s)))
    case first=>as_aux_lemma=>
     cases gl
     .go_wp2
      all_goals go_meet
      all_goals exact⟨rfl,aA ch.o⟩
     .obtain⟨⟨f,l,q,r,t,y,z,D,E,F,m,p⟩,-⟩:=bM bu.o.2.1;have H:=aD bu.o.2.1;go_wp2_with (go_at_call 28;refine(UW o bx.o s o.aD4 bx.o.2.2.2.2.2.2.2.2 w7 (fun h=>qA h.1.2) (qA cf.o) (qA gu.o) ch.o).mono ?_;rintro e w8 ⟨rfl,ib⟩;replace ch:=aA ib;clear ib)
      all_goals go_meet
      all_goals exact⟨rfl,aA ch.o⟩
    case rest=>
    obtain⟨hv,bn⟩:=hcut;subst hv;obtain⟨s0,fp⟩:=xE ((if gl then fT s o o.aD4 else s));rw[<-fp] at bn;have cu:=aA fp;clear fp ch;obtain⟨_,_,_,_,_,_,_,_,_,_,_,_,fs⟩:=bn.o;have bf:=aA (bu.o.off fs (fun b h=> .inl ⟨qA cf.o,fun e=>by omega⟩));replace af:=aA (aH.aDQ aO af.o (fs.mono (fun b _ d=> .inl ⟨d.2,fun e=>by have:W0.heap.size<=b:=d.1;have:=bl.o;omega⟩)));replace bn:=aA bn.o.here;clear fs bu;go_upto_if 70 with (fail)
    go_cut [14,15] from 16 to 105 (fun v1 v2 w'=>Hid (mH ok w (fU s ca cc ra rc na nc oa oc ta tc ua uc ka kc ba bc) (rO o) #[.complex .f64 (Cm.qb R.1.1.1) (Cm.qb R.1.1.2),.slice da R.1.2.length dc] (dZ (oF s o R.1.1 R.1.2 gl dn)) (.slice da R.1.2.length dc) R.1.2 (if dn=true then dA s0 o else s0) w'))
    case first=>as_aux_lemma=>
     have je:Hid (mH ok w _ _ _ _ (.slice da R.1.2.length dc) R.1.2 s0 wc):=aA ⟨_,_,fun b d=> .inl d.1,qA cf.o,bn.o,bf.o,af.o.more aO fun b d=>⟨qA bl.o,d.2⟩⟩;have il:=uL
     cases dn
     .obtain⟨⟨Y0,Y1,Y2,Y3,Y4,Y5,Y6,Y7⟩,aj,ak,an,ao,aq,ar,au,av⟩:=mP bf.o.2.2.2.2.2.2.1;have zY:=aD bf.o.2.2.2.2.2.2.1;go_wp2
      all_goals go_meet
      all_goals exact aA (aAp s o R.1.1 R.1.2 gl▸je.o.at (aI _) (aG bf.o.2.2.2.2.2.2.1 0 _))
     .obtain⟨L8,km,kp,kv,ks,kt,kx,ky,kq,kn,de,e9,_⟩:=bn.o;have ig:kL 257 s0:=by rw[cu.o];split;(· exact DV (FT be.o) _ _);(· exact(FT be.o).more qo)
      have dj:=aA ig;have i1:Hid (∀c∈s0.aDH,c.aDM.length<=900000):=aA (by rw[cu.o,tI];exact fun c hc=>lT (be.o.1.each c hc).aDM qo);have gr:Hid (s0.aDU.length<=900000/\0<=s0.aDT/\s0.aDT<=1000000):=aA (by rw[cu.o,(gV gl s o o.aD4).1,(gV gl s o o.aD4).2];exact⟨gg.o,e5.o.1,qA e5.o.2⟩);obtain⟨gw,dt,gx,ga⟩:=dI (e9.sto (qA dj.o.aDH) (qA dj.o.aDJ) (qA dj.o.aDO)) de e9.size (fy.o.on bf.o.2.2.2.2.2.2.2.1);have er:=aA (Kx s0 _ _ _ _ _ _ _ _ o bx.o wc gw.o ga.o (dj.o.more qo) i1.o gr.o.1 gr.o.2);obtain⟨⟨f,l,q,r,t,y,z,D,E,F,m,p⟩,-⟩:=bM bf.o.2.1;have H:=aD bf.o.2.1;unfold aV at de er;obtain⟨⟨X0,X1,X2,X3,X4,X5,X6,X7,X8,X9,bq,br,bs⟩,-⟩:=bS de;have zX:=aD de;clear de e9 ig;go_wp2_with fail;refine er.o.mono ?_;rintro e w9 ⟨K9,e6,L9,j0,j3,j7,j5,j6,j8,j9,j4,j2,rfl,hs,iv,fb,dv⟩;obtain⟨hg,gk,gn⟩:=aY (aE dt.o dv) fb fb.one;have ew:Hid (∀b,K9 b->(ok b/\b<w.heap.size)\/w.heap.size+8<=b):=aA (fun b d=>(hs b d).elim (fun h=>h.1.elim (fun h=> .inl h.1) (fun h=> .inr (qA cf.o))) (fun h=> .inr (qA (aD dt.o))));have du:Hid (w.heap.size+8<=e6/\w5.heap.size<=e6):=aA ⟨qA (aD dt.o),lT gx.o iv⟩;have gh:=aA (bf.o.on dv);have gy:=aA (aH.on aO af.o dv);clear X0 X1 X2 X3 X4 X5 X6 X7 X8 X9 bq br bs zX f l q r t y z D E F m p H dv fb hs iv;go_upto_region 18 with (refine dP rfl _ (.tmp 10) (.tmp 73) rfl (w.heap.size+1+1+1+1+1+1+1) _ rfl rfl _ _ hg.o SW rfl gn.o ?_;intro ix hh dp)
      have bb:∀{b},b≠w.heap.size+7->b≠w.heap.size+1+1+1+1+1+1+1:=fun h=>h
      have az:Hid (mH ok w _ _ _ _ (.slice da R.1.2.length dc) R.1.2 (dA s0 o) ix):=aA ⟨K9,e6,ew.o,du.o.1,⟨L9,j0,j3,j7,j5,j6,j8,j9,j4,j2,hh.o,gk.o.stays dp.o (fun b d=>bb (by rcases ew.o b d with h|h<;>omega)) (fun b d _=>bb (qA du.o)),aN.refl _ _⟩,gh.o.off dp.o (fun b d=>bb qo),(aH.aDQ aO gy.o (dp.o.mono fun b _ d=>bb (qD d.1 bl.o))).more aO fun b d=>⟨qD bl.o d.1,lL d.2 du.o.2⟩⟩;clear hh dp gh gy gk hg gn du ew dt gw er ga gx bb;obtain⟨⟨f,l,q,r,t,y,z,D,E,F,m,p⟩,-⟩:=bM az.o.aEh.2.1;have H:=aD az.o.aEh.2.1;obtain⟨⟨Y0,Y1,Y2,Y3,Y4,Y5,Y6,Y7⟩,aj,ak,an,ao,aq,ar,au,av⟩:=mP az.o.aEh.2.2.2.2.2.2.1;have zY:=aD az.o.aEh.2.2.2.2.2.2.1;by_cases hk:o.aDG=2
      .have b1:(o.aDG==(2:Int))=true:=by rw[hk];rfl
       have di:=aA hk;clear hk;obtain⟨hd,fl⟩:∃b,R.1.2.any (fun x=>decide (x.aDG=2)&&decide (x.arg=o.aD1))=b:=⟨_,rfl⟩;have cl:=Fw _ R.1.2 o.aD1 ix az.o.obs;rw[fl] at cl;have cl:=aA cl;have gb:=aA fl;clear fl;obtain⟨⟨ag,ah⟩,-⟩:=fM az.o.aEh.2.2.2.2.2.1;have ai:=aD az.o.aEh.2.2.2.2.2.1;go_upto_region 19 with (go_at_call 30;refine cl.o.mono ?_;rintro e kb ⟨rfl,ht⟩;have bp:=aA (az.o.on ht);clear f l q r t y z D E F m p H Y0 Y1 Y2 Y3 Y4 Y5 Y6 Y7 aj ak an ao aq ar au av zY az cl ht ag ah ai;obtain⟨⟨f,l,q,r,t,y,z,D,E,F,m,p⟩,-⟩:=bM bp.o.aEh.2.1;have H:=aD bp.o.aEh.2.1;obtain⟨⟨Y0,Y1,Y2,Y3,Y4,Y5,Y6,Y7⟩,aj,ak,an,ao,aq,ar,au,av⟩:=mP bp.o.aEh.2.2.2.2.2.2.1;have zY:=aD bp.o.aEh.2.2.2.2.2.2.1)
       generalize ir:kb.setCell _ _=iy;have bd:Hid (mH ok w _ _ _ #[.int .i64 0,.complex .f64 (Cm.qb R.1.1.1) (Cm.qb R.1.1.2),.bool gl,.int .i64 0,.int .i64 0,.string ⟨#[]⟩,.bool hd,.int .i64 0] (.slice da R.1.2.length dc) R.1.2 (dA s0 o) iy):=aA (by rw[<-ir];exact bp.o.at (aI _) (aG bp.o.aEh.2.2.2.2.2.2.1 6 _));clear ir f l q r t y z D E F m p H Y0 Y1 Y2 Y3 Y4 Y5 Y6 Y7 aj ak an ao aq ar au av zY bp;obtain⟨⟨f,l,q,r,t,y,z,D,E,F,m,p⟩,-⟩:=bM bd.o.aEh.2.1;have H:=aD bd.o.aEh.2.1;obtain⟨⟨Y0,Y1,Y2,Y3,Y4,Y5,Y6,Y7⟩,aj,ak,an,ao,aq,ar,au,av⟩:=mP bd.o.aEh.2.2.2.2.2.2.1;have zY:=aD bd.o.aEh.2.2.2.2.2.2.1
       cases hd
       .obtain⟨⟨J,L,Q,S,U,V,W,X,aa,ab,M,O,P⟩,-⟩:=bS bd.o.aEh.1;have ad:=aD bd.o.aEh.1;have fq:=HS.o.on bd.o.aEh.2.2.2.2.2.2.2.1;have cj:=DO s _ _ _ _ _ _ _ _ o.aDN iy fq;have i6:=aA (fun c hc=>DW (N:=o.aDN) (c:=c) fq hc);unfold aV at cj;have cj:=aA cj;clear fq;go_wp2_with fail;refine cj.o.mono ?_;intro e el hp;obtain⟨c,vf,vl,bo,rfl,dy,ic,hy⟩:=aA6 hp i6.o;obtain⟨fa,fc,rfl,_⟩:=dy.2.2.2.1.slice;obtain⟨la,lc,rfl,_⟩:=dy.2.2.2.2.slice;obtain⟨W2,ec⟩:=xE (el.alloc (.cells (pE c fa fc la lc) 99));have fj:Below el.heap.size el W2:=by rw[ec];exact aB _ _
        have C:Hid (W2.heap[el.heap.size]? =some (.cells (pE c fa fc la lc) 99 (0,0))):=aA (by rw[ec];exact aK _ _ _ rfl);have bz:=aA ((bd.o.on hy).on fj);have bw:=KW c _ _ o.aD1 W2 (dy.aDQ (aJ fj));obtain⟨v,hv⟩:∃v,gL c o.aD1=v:=⟨_,rfl⟩;rw[hv] at bw;have ja:Hid (v=((eW s o.aDN).map (fun c=>gL c o.aD1)).getD bD):=aA (by rw[ic,hv]);unfold aP dE at bw;have bw:=aA bw;have jn:=aA ec;clear ec hy fj dy ic hv hp f l q r t y z D E F m p H Y0 Y1 Y2 Y3 Y4 Y5 Y6 Y7 aj ak an ao aq ar au av zY J L Q S U V W X aa ab M O P ad bd cj;go_upto_region 21 with (fail)
        rw[<-jn.o];obtain⟨⟨f,l,q,r,t,y,z,D,E,F,m,p⟩,-⟩:=bM bz.o.aEh.2.1;have H:=aD bz.o.aEh.2.1;obtain⟨⟨Y0,Y1,Y2,Y3,Y4,Y5,Y6,Y7⟩,aj,ak,an,ao,aq,ar,au,av⟩:=mP bz.o.aEh.2.2.2.2.2.2.1;have zY:=aD bz.o.aEh.2.2.2.2.2.2.1;obtain⟨⟨C0,C1,C2,C3,C4⟩,-⟩:=dN C.o;have zC:=aD C.o;go_wp2_with fail;refine bw.o.mono ?_;rintro e kz ⟨rfl,ia⟩;have cb:=aA (bz.o.on ia);clear ia f l q r t y z D E F m p H Y0 Y1 Y2 Y3 Y4 Y5 Y6 Y7 aj ak an ao aq ar au av zY bz bw C0 C1 C2 C3 C4 zC;obtain⟨⟨f,l,q,r,t,y,z,D,E,F,m,p⟩,-⟩:=bM cb.o.aEh.2.1;have H:=aD cb.o.aEh.2.1;obtain⟨⟨Y0,Y1,Y2,Y3,Y4,Y5,Y6,Y7⟩,aj,ak,an,ao,aq,ar,au,av⟩:=mP cb.o.aEh.2.2.2.2.2.2.1;have zY:=aD cb.o.aEh.2.2.2.2.2.2.1;go_wp2
        all_goals go_meet
        all_goals exact aA (Xl s o R.1.1 R.1.2 gl di.o gb.o ja.o▸cb.o.at (((aI _).trans (aI _)).trans (aI _)) (aG (aG (aG cb.o.aEh.2.2.2.2.2.2.1 3 _) 4 _) 5 _))
       .go_wp2
        all_goals go_meet
        all_goals exact aA (Xk s o R.1.1 R.1.2 gl di.o gb.o▸bd.o)
      .have b1:(o.aDG==(2:Int))=false:=bN.2 hk;have di:=aA hk;clear hk;go_wp2
       all_goals go_meet
       all_goals exact aA (Mg s o R.1.1 R.1.2 gl di.o▸az.o.at (aI _) (aG az.o.aEh.2.2.2.2.2.2.1 6 _))
    case rest=>
    have HM:=hcut;clear hcut bn bf af
    try clear ha
    try clear dm
    try clear fz
    try clear fw
    try clear A
    try clear B
    try clear R1
    try clear R2
    try clear R3
    try clear T
    try clear Y
    try clear Z
    try clear AA
    try clear BB
    try clear HT
    try clear bg
    try clear HD
    try clear bm
    try clear gq
    try clear HK
    try clear a
    try clear e5
    try clear gg
    try clear gu
    try clear jq
    try clear cf
    try clear cg
    try clear fy
    obtain⟨s1,dz⟩:=xE ((if dn=true then dA s0 o else s0));rw[<-dz] at HM;have ih:kL 258 s1:=by
     have h0:kL 257 s0:=by rw[cu.o];split;(· exact DV (FT be.o) _ _);(· exact(FT be.o).more qo)
     rw[dz];split;(· exact Mh h0 o);(· exact h0.more qo)
    obtain⟨gf,jm,gi⟩:=aY ih dz (HR.o▸vM (lM s o) s.aDI);clear dz ih;obtain⟨K,base,hK,hz,hl,cx,fe⟩:=HM.o;have cm:=aA (And.intro hK hz);have ck:=ZH o bx.o s1 _ R.1.2 dn wc (fun h=>by rcases hK _ h with h|h<;>omega) qo fe (fun b d=>⟨d.2,fun e=>qA d.1⟩) 258 gf.o (qA gi.o.2) hl;unfold eY bW at ck;have ck:=aA ck;have gm:=aA fe;clear hK hz hl fe;obtain⟨⟨f,l,q,r,t,y,z,D,E,F,m,p⟩,-⟩:=bM cx.2.1;have H:=aD cx.2.1;obtain⟨⟨ag,ah⟩,-⟩:=fM cx.2.2.2.2.2.1;have ai:=aD cx.2.2.2.2.2.1;clear cx;go_wp2_with fail;refine ck.o.mono ?_;rintro e kd ⟨rfl,K2,jy,hr,hn⟩;have bk:=aA (yC o dn R.1.2 258 s1 gf.o);obtain⟨s2,ea⟩:=xE (R.1.2.foldl (dB o dn) s1);rw[<-ea] at hn;have bk:Hid (kL 900000 s2):=aA (ea▸bk.o.more (qA gi.o.2));have et:=aA (MM gp.o HR.o cq.o jd.o iz.o i7.o cu.o (s2:=s2) (by rw[ea,jm.o]));obtain⟨L2,kl,ee,ei,eg,eh,ej,ek,ef,ed,dd,e8,fr⟩:=hn;have aw:=aA (HM.o.aEh.off fr (fun b d=> .inl ⟨qA cm.o.2,fun e=>by omega⟩));have ey:=aA (aH.aDQ aO gm.o (fr.mono fun b _ d=> .inl ⟨d.2,fun e=>qA d.1⟩));have gd:Hid (∀b,K2 b->(ok b/\b<w.heap.size)\/w.heap.size+8<=b):=aA (fun b d=>(hr b d).elim (cm.o.1 b) (fun h=> .inr (lT cm.o.2 h)));obtain⟨dk,hf,gv⟩:=aY e8 dd (e8.sto (qA bk.o.aDH) (qA bk.o.aDJ) (qA bk.o.aDO));have cn:=Me s2 _ _ _ _ _ _ _ _ kd gv.o;unfold aV at dd cn;obtain⟨⟨X0,X1,X2,X3,X4,X5,X6,X7,X8,X9,bq,br,bs⟩,-⟩:=bS dd;have zX:=aD dd;have cn:=aA cn;clear dd e8 fr jy hr HM gm ck ea f l q r t y z D E F m p H ag ah ai;obtain⟨ρ,fv⟩:=xE (oF s o R.1.1 R.1.2 gl dn);have iw:ρ.aD8=gl:=by rw[fv];rfl
    rw[<-fv] at aw et;have jl:=aA iw;clear fv iw;go_wp2_with fail;refine cn.o.mono ?_;rintro e en ⟨rfl,cz⟩;replace aw:=aA (aw.o.on cz);replace dk:=aA (dk.o.on cz);replace ey:=aA (aH.on aO ey.o cz);have jo:=qK hf cz;clear cz cn hf gv X0 X1 X2 X3 X4 X5 X6 X7 X8 X9 bq br bs zX
    cases fm:kC s2
    .skip
     have jc:=aA (dh.o.trans (et.o.trans (iN (by rw[fm];decide))));have a:Hid (XC w (fU s ca cc ra rc na nc oa oc ta tc ua uc ka kc ba bc) (rO o) #[.complex .f64 (Cm.qb R.1.1.1) (Cm.qb R.1.1.2),.slice da R.1.2.length dc] #[.int .i64 ρ.err,.complex .f64 (Cm.qb ρ.mark.1) (Cm.qb ρ.mark.2),.bool ρ.aD8,.int .i64 ρ.val.1,.int .i64 ρ.val.2.1,.string ρ.val.2.2,.bool ρ.hidden,.int .i64 ρ.at_] #[.int .i64 s2.aDP,ee,ei,eg,eh,.string s2.aDI.id,.bool s2.aDI.set,.int .i64 s2.aDI.alg,ej,ek,ef,ed,.int .i64 s2.aDT] en):=aA ⟨aw.o.1,aw.o.2.1,aw.o.2.2.2.2.2.1,aw.o.2.2.2.2.2.2.1,jo.o⟩;obtain⟨jj,ez,cr⟩:=aY aw.o.2.2.1 aw.o.2.2.2.1 aw.o.2.2.2.2.1;have ff:=dk.o.one;unfold aV at ff;have jh:=aA ff;clear ff fm;go_upto_region 26 with (fail)
     refine cF 15 [(0,false),(1,false),(2,false),(3,false),(4,false),(5,false),(6,false),(7,false),(8,false),(9,false),(10,false),(11,false),(12,true),(13,true),(14,true)] [(15,true)] (XC w (fU s ca cc ra rc na nc oa oc ta tc ua uc ka kc ba bc) (rO o) #[.complex .f64 (Cm.qb R.1.1.1) (Cm.qb R.1.1.2),.slice da R.1.2.length dc] #[.int .i64 ρ.err,.complex .f64 (Cm.qb ρ.mark.1) (Cm.qb ρ.mark.2),.bool ρ.aD8,.int .i64 ρ.val.1,.int .i64 ρ.val.2.1,.string ρ.val.2.2,.bool ρ.hidden,.int .i64 ρ.at_] #[.int .i64 s2.aDP,ee,ei,eg,eh,.string s2.aDI.id,.bool s2.aDI.set,.int .i64 s2.aDI.alg,ej,ek,ef,ed,.int .i64 s2.aDT]) (by decide +kernel) (by decide +kernel) a.o ?_;simp only[List.cons_append,List.nil_append];obtain⟨⟨J,L,Q,S,U,V,W,X,aa,ab,M,O,P⟩,-⟩:=bS a.o.1;have ad:=aD a.o.1;obtain⟨⟨f,l,q,r,t,y,z,D,E,F,m,p⟩,-⟩:=bM a.o.2.1;have H:=aD a.o.2.1;obtain⟨⟨ag,ah⟩,-⟩:=fM a.o.2.2.1;have ai:=aD a.o.2.2.1;obtain⟨⟨Y0,Y1,Y2,Y3,Y4,Y5,Y6,Y7⟩,-⟩:=mP a.o.2.2.2.1;have zY:=aD a.o.2.2.2.1;obtain⟨⟨X0,X1,X2,X3,X4,X5,X6,X7,X8,X9,bq,br,bs⟩,-⟩:=bS a.o.2.2.2.2;have zX:=aD a.o.2.2.2.2
     repeat (refine dK rfl (fun K hK=> ?_);unfold rd;go_simp;refine hK _ (fun eo h1=> ?_) ?_;(· clear hK K J L Q S U V W X aa ab M O P ad f l q r t y z D E F m p H ag ah ai Y0 Y1 Y2 Y3 Y4 Y5 Y6 Y7 zY X0 X1 X2 X3 X4 X5 X6 X7 X8 X9 bq br bs zX;obtain⟨⟨J,L,Q,S,U,V,W,X,aa,ab,M,O,P⟩,-⟩:=bS h1.1;have ad:=aD h1.1;obtain⟨⟨f,l,q,r,t,y,z,D,E,F,m,p⟩,-⟩:=bM h1.2.1;have H:=aD h1.2.1;obtain⟨⟨ag,ah⟩,-⟩:=fM h1.2.2.1;have ai:=aD h1.2.2.1;obtain⟨⟨Y0,Y1,Y2,Y3,Y4,Y5,Y6,Y7⟩,-⟩:=mP h1.2.2.2.1;have zY:=aD h1.2.2.2.1;obtain⟨⟨X0,X1,X2,X3,X4,X5,X6,X7,X8,X9,bq,br,bs⟩,-⟩:=bS h1.2.2.2.2;have zX:=aD h1.2.2.2.2;unfold rd;go_simp);clear hK K)
     clear J L Q S U V W X aa ab M O P ad f l q r t y z D E F m p H ag ah ai Y0 Y1 Y2 Y3 Y4 Y5 Y6 Y7 zY X0 X1 X2 X3 X4 X5 X6 X7 X8 X9 bq br bs zX;refine bK rfl (fun K1 I=> ?_);unfold mv;refine lD rfl _ (.tmp 4) (.tmp 113) rfl (w.heap.size+1+1) _ rfl rfl _ _ jj.o SW rfl jh.o ?_;intro wA ct cd;replace cd:Hid (aN (fun b=>b≠w.heap.size+1+1) en wA):=aA ((aJ (Below.refl _ en).drew).trans cd.o);replace a:=aA (a.o.off (g:=w.heap.size+1+1) cd.o (j:=2) rfl qe);replace ez:=aA (nF ez.o (g:=w.heap.size+1+1) cd.o (n:=w.heap.size) (i:=3) (j:=2) rfl rfl qe);replace cr:=aA (nF cr.o (g:=w.heap.size+1+1) cd.o (n:=w.heap.size) (i:=4) (j:=2) rfl rfl qe);refine I _ _ (fun _=>a.o) ?_;clear I K1;refine bK rfl (fun K1 I=> ?_);unfold mv;refine lD rfl _ (.tmp 5) (.tmp 114) rfl (w.heap.size+1+1+1) _ rfl rfl _ _ ez.o Uo rfl (by simp[Value.oneCell']) ?_;intro wB e0 dr;replace a:=aA (a.o.off (g:=w.heap.size+1+1+1) dr.o (j:=3) rfl qe);replace cr:=aA (nF cr.o (g:=w.heap.size+1+1+1) dr.o (n:=w.heap.size) (i:=4) (j:=3) rfl rfl qe);replace ct:=aA (nF ct.o (g:=w.heap.size+1+1+1) dr.o (n:=w.heap.size) (i:=2) (j:=3) rfl rfl qe);refine I _ _ (fun _=>a.o) ?_;clear I K1;refine bK rfl (fun K1 I=> ?_);unfold mv;refine lD rfl _ (.tmp 6) (.tmp 124) rfl (w.heap.size+1+1+1+1) _ rfl rfl _ _ cr.o Up rfl (by simp[Value.oneCell']) ?_;intro wD jk ds;replace a:=aA (a.o.off (g:=w.heap.size+1+1+1+1) ds.o (j:=4) rfl qe);replace ct:=aA (nF ct.o (g:=w.heap.size+1+1+1+1) ds.o (n:=w.heap.size) (i:=2) (j:=4) rfl rfl qe);replace e0:=aA (nF e0.o (g:=w.heap.size+1+1+1+1) ds.o (n:=w.heap.size) (i:=3) (j:=4) rfl rfl qe)
     refine I _ _ (fun _=>a.o) ?_;clear I K1;refine bK rfl (fun K1 I=> ?_);unfold mv;go_simp;refine I _ _ (fun h=>absurd h qe) ?_;clear I K1;unfold cK;have e4:Hid (aN (fun b=>b≠w.heap.size+2/\b≠w.heap.size+3/\b≠w.heap.size+4) en wD):=aA ((cd.o.mono fun b _ d=>d.1).trans ((dr.o.mono fun b _ d=>d.2.1).trans (ds.o.mono fun b _ d=>d.2.2)));have df:Hid (Below w.heap.size w wD):=aA (Mi aw.o.2.2.2.2.2.2.2.1 e4.o);have jf:=aA (dk.o.stays e4.o (fun b d=>aA7 (gd.o b d)) (fun b d _=>Ry cm.o.2 d));have jg:=aA (aH.aDQ aO ey.o (e4.o.mono fun b _ d=>aAq d.1));obtain⟨⟨a0,a1,a2,a3,a4,a5,a6,a7,a8,a9,cv,cw,a12⟩,-⟩:=bS ct.o;obtain⟨⟨b0,b1,b2,b3,b4,b5,b6,b7⟩,-⟩:=mP e0.o;obtain⟨⟨c0,c1,c2,c3,c4,c5,c6,c7,c8,c9,jt,ju,c12,jv,jw,jx⟩,-⟩:=kV jk.o;go_wp2_with fail;unfold Exit.jump;refine bR (.tuple #[.agg #[.int .i64 s2.aDP,ee,ei,eg,eh,.string s2.aDI.id,.bool s2.aDI.set,.int .i64 s2.aDI.alg,ej,ek,ef,ed,.int .i64 s2.aDT],.agg #[.int .i64 ρ.err,.complex .f64 (Cm.qb ρ.mark.1) (Cm.qb ρ.mark.2),.bool ρ.aD8,.int .i64 ρ.val.1,.int .i64 ρ.val.2.1,.string ρ.val.2.2,.bool ρ.hidden,.int .i64 ρ.at_],.agg #[.int .i64 o.aDG,.string o.aDW,.string o.aDN,.string o.aD1,.string o.to_,.int .i64 o.val.1,.int .i64 o.val.2.1,.string o.val.2.2,.int .i64 o.aD3,.string o.text,.string o.aD4,.bool o.aD8,.int .i64 s.aDT,.complex .f64 (Cm.qb R.1.1.1) (Cm.qb R.1.1.2),.bool ρ.aD8,.slice da R.1.2.length dc],.int .i64 0]) ?_;obtain rfl:=jl.o;have eu:=jc.o;subst eu;exact⟨ee,ei,eg,eh,ej,ek,ef,ed,.agg (lC ⟨o,s.aDT,R.1.1,ρ.aD8,R.1.2⟩ (.slice da R.1.2.length dc)),rfl,(jf.o.sto (qA bk.o.aDH) (qA bk.o.aDJ) (qA bk.o.aDO)).more (fun b d=>aAs cm.o.2 (d.imp (gd.o b) id)),⟨_,rfl,aH.more aO jg.o (fun b d=>aAr d.1)⟩,df.o⟩
    .go_wp2;refine wp_goto (show 0=0/\JJ _ _ from ⟨rfl,?_⟩);rw[ev.o];show XB w _ _ G s _ _ _ _ _;refine JW 6 (oR s o).2 ?_ ⟨aA (dh.o.trans (et.o.trans (iP fm))),aA aw.o.1,aA aw.o.2.2.1,aA aw.o.2.2.2.1,aA aw.o.2.2.2.2.1,aA aw.o.2.2.2.2.2.2.2.1⟩;rfl
   .go_wp2;refine wp_goto (show 0=0/\JJ _ _ from ⟨rfl,?_⟩);rw[ev.o];show XB w _ _ G s _ _ _ _ _;refine JW R.2 (oR s o).2 ?_ ⟨aA (dh.o.trans (by rw[HR.o] at fo ⊢;exact ML gp.o fo)),aA HD.o.1,aA HD.o.2.2.1,aA HD.o.2.2.2.1,aA HD.o.2.2.2.2.1,aA HD.o.2.2.2.2.2.2.2.1⟩;rfl
  .go_wp2;refine wp_goto (show 0=0/\JJ _ _ from ⟨rfl,?_⟩);rw[ev.o];show XB w _ _ G s _ _ _ _ _;refine JW (oR s o).1 (oR s o).2 ?_ ⟨aA (dh.o.trans (MK ik)),aA (aE A.o bm.o),aA (aE R1.o bm.o),aA (aE R2.o bm.o),aA (aE R3.o bm.o),gq⟩;rfl
end Go.Proofs.YtheabjeppmdmiaaGreatDoor
