/- Lemmas. -/
import Derived.Test.YtbinmcabjnoliaaGreatDoorMbi
namespace Go.Proofs.YtbinmcabjnoliaaGreatDoor
open Go.RowKit
set_option linter.unusedVariables false
set_option linter.unusedSimpArgs false
set_option maxHeartbeats 16000000
open _root_.Go.Proofs.Tryz
set_option maxRecDepth 20000
theorem QDa{p:Prop}(h:p:=by
 exact⟨0,0,none,0,[],qo,rfl,aA rfl,OB0,aA aM.nil,HR0,HB0,aA (lR _)⟩):p:=h
theorem QCI{p:Prop}(h:p:=by
 go_wp2;refine bR (.agg #[.complex .f64 0 0,.slice none 0 0]) ?_;exact tE HJ2.o (nW HBW.o (Nat.le_succ _)) rfl rfl):p:=h
theorem QBV{p:Prop}(h:p:=by
 rw[e9] at HG9 ⊢;go_roundw
 case rel=>exact⟨k+1,A',c2,qo,by go_num,rfl,aA (by have:=HG9.o;rw[HL9.o,HTF.o] at this;exact this),HB9⟩
 case measure=>simp[intOf];omega):p:=h
theorem QAK{p:Prop}(h:p:=by
 have HG2:=aA (HG.o.on aP (aB wr (.cells #[.complex .f64 (Cm.qb x.1.1) (Cm.qb x.1.2),.slice xa x.2.length xc] 124)));have OBQ2:=qK OBQ (aB wr (.cells #[.complex .f64 (Cm.qb x.1.1) (Cm.qb x.1.2),.slice xa x.2.length xc] 124));have HBQ2:=qB HBQ (aB wr (.cells #[.complex .f64 (Cm.qb x.1.1) (Cm.qb x.1.2),.slice xa x.2.length xc] 124));have HSZ2:Hid (W2.heap.size<=(wr.alloc (.cells #[.complex .f64 (Cm.qb x.1.1) (Cm.qb x.1.2),.slice xa x.2.length xc] 124)).heap.size):=aA (by have:=HSZ.o;rw[World.size_alloc];omega);clear heq HPS HST HG HX3;go_wp2;go_roundw
 case rel=>exact⟨k+1,n,a2,c2,st,qo,by go_num,HNS,OBQ2,HG2,HST2,HBQ2,HSZ2⟩
 case measure=>simp[intOf];omega):p:=h
theorem QAd{p:Prop}(h:p:=by
 have OBWW:=aA OBQ.o;have HGW:=aA HG.o;have HBT:=aA HBQ.o;have HSW:=aA HSZ.o;obtain⟨WW,hWW⟩:∃WW:World,WW=wr:=⟨_,rfl⟩;subst hWW;have PBWW:=qK PB HBT.o;clear HST OBQ HG HBQ HSZ PBQ;obtain⟨⟨y0,y1⟩,g0,g1⟩:=fK OBWW.o;have zy:=aD OBWW.o;obtain⟨⟨v0,v1,v2,v3,v4,v5,v6⟩,_⟩:=bJ PBWW.o;have zv:=aD PBWW.o;go_wp2;have RBWW:=qK RB HBT.o;have HDW:=aA (fun (w':World) (hb:Below WW.heap.size WW w')=>HDU.o w' okp _ (HOB.o.on aP (aC HBW.o (aC HBT.o hb))));go_region_law (first
  |(go_simp;go_at_call 233;refine(HDW.o _ (Below.refl _ _).drew).mono ?_;rintro e wd ⟨dv,rfl,hds,hbd⟩;obtain⟨da,dc,rfl,_⟩:=hds.slice;have HBD:=aA (aC (Below.refl WW.heap.size WW).drew hbd);have HDS:=aA (hds.inb aP);have OBD:=qK OBWW HBD.o;obtain⟨⟨z0,z1⟩,h0,h1⟩:=fK OBD.o;have zz:=aD OBD.o;clear hbd hds)
  |(refine VT (base:=W2.heap.size) VM aP rfl (.tmp 76) (.tmp 80) rfl _ st rfl (HGW.o.on aP HBD.o) _ (gO p.aC7 m) rfl (aH.more aP HDS.o (fun b hb=>⟨by have h1:=hb.1;have h2:=aD OBWW.o;have h3:WW.heap.size<=b:=h1;omega,hb.2,fun e=>by have h1:WW.heap.size<=b:=hb.1;have h2:=(HGW.o.lt b e.symm).2;omega⟩)) (by have h1:=HRL.o;have h2:=HDL.o;rw[<-HRS.o] at h1;omega) qe (lT HSW.o HBD.o.size) ?_;intro l2 hl2 A2 c4 w10 hG hgr hat';have HG10:=aA hG;have HL10:=aA hl2.o;have HB10:=aA ((HGW.o.on aP HBD.o).below (aC HBT.o HBD.o) hgr (qA HZ2.o) (lT HSW.o HBD.o.size));have OB10:=aA ((hgr.block wo.heap.size zz (fun e=>by have h1:=(HGW.o.lt _ e.symm).1;have h2:=HZ2.o;omega)).trans OBD.o);obtain⟨⟨s0',s1'⟩,t0',t1'⟩:=fK OB10.o;have zs':=aD OB10.o;clear hG hgr hat' hl2))
 all_goals
  have RB10:=qK RB HB10.o;obtain⟨⟨u0,u1⟩,f0,f1⟩:=fK RB10.o;have zu:=aD RB10.o;have n1:¬w.heap.size+1=wo.heap.size:=qA HZ0.o;have n2:¬wo.heap.size=w.heap.size+1:=qA HZ0.o;go_wp2;refine bR (.agg #[.complex .f64 ma mb,.slice A2 l2.length c4]) ?_;refine⟨.slice A2 l2.length c4,by rw[HJ3.o,HMA2.o,HMB2.o],?_,nW (aC HBW.o (HB10.o.setCell (p:=⟨wo.heap.size,1,none⟩) (lR _) _)) (Nat.le_succ _)⟩;have hsl:=(eJ (enc:=EH) (good:=yG) (ok':=fun b=>W2.heap.size<=b) HG10.o).sl (by rw[HL10.o,aL,HRS.o];have h1:=HRL.o;have h2:=HDL.o;omega) (fun b=>W2.heap.size<=b) (fun b hb _=>hb) (fun b hb _=>hb) aP;rw[HJ3.o];have e10:l2=RES++gO p.aC7 m:=by rw[HL10.o,HRS.o]
  rw[<-e10];refine aH.more aP (aH.aC0 aP hsl (((aI (g:=wo.heap.size) (i:=1) _).mono fun k hk hb=>by have h1:W2.heap.size<=k:=hb;have h2:=HZ2.o;show k≠wo.heap.size;omega).trans ((((aI (g:=w.heap.size+1) (i:=0) _).trans (aI (g:=w.heap.size+1) (i:=1) _)).mono fun k hk hb=>by have h1:W2.heap.size<=k:=hb;have h2:=HZ2.o;have h3:=HZ0.o;show k≠w.heap.size+1;omega)))) (fun b hb=>by have h1:W2.heap.size<=b:=hb;have h2:=HZ2.o;have h3:=HZ0.o;show w.heap.size<=b;omega)):p:=h
section
variable {α:Type} {R:Rep α} {s:Nat} {P:Program} {w:World} {t e:TypeId} {bytes:Nat} {base:Nat} {ok:nP}
theorem VT(E:dV P t e s bytes)(F:Firm R s){ops:Array Oper}{o:Oper}{a:Act}{K:Act->World->Prop}{Q:Exit->Act->World->Prop}{G:Prop}(m:o.guard=none)(f x:Operand)
 (n:o.op=.call {callee:= .builtin .append,args:=#[f,x],argTypes:=#[t,t]})
 (v:Value)(l:List α)(p:a.eval f=v)(i:aM R s e w base ok v l)
 (g:Value)(y:List α)(q:a.eval x=g)(r:aH R w (fun b=>ok b/\b<w.heap.size/\some b≠v.ownBlock) g y)
 (h63:l.length+y.length<=1000000)(k:bytes<=10000)(j:base<=w.heap.size)
 (h:∀l',Hid (l'=l++y)->∀c d w',aM R s e w' base ok (.slice c l'.length d) l'->w.grownBy w' v.ownBlock->((Value.slice c l'.length d).ownBlock=v.ownBlock\/(Value.slice c l'.length d).ownBlock=some w.heap.size)->K (a.put o.dst (.slice c l'.length d)) w'):if Region.wanted o (yielded ops a.tmps)=true then Oper.wp P o a w K Q else G:=by
 rw[iP (by simp[Region.wanted,m])];exact Kh E F f x n v l p i g y q r h63 k j h
end
theorem GY{first:Bool}{m:Mk}{l:List Rs}{k:Nat}(a:k<l.length):gG first m (l.drop k)=if l[k].1≠m then gG first m (l.drop (k+1)) else if first=true then l[k].2 else l[k].2++gG first m (l.drop (k+1)):=by
 rw[List.drop_eq_getElem_cons a];rfl
theorem LL(first:Bool)(m:Mk):∀l:List Rs,(gG first m l).length<=(l.map (·.2.length)).sum
 | []=>Nat.zero_le _
 |x::l=>by
  have:=LL first m l
  unfold gG;rw[List.map_cons,List.sum_cons];split
  .omega
  split
  .omega
  .rw[aL];omega
theorem Qd(l:List Rs)(k:Nat)(a:k<l.length):(l.take k).map (·.1)++[l[k].1]=(l.take (k+1)).map (·.1):=by
 rw[List.take_succ_eq_append_getElem a,List.map_append];rfl
theorem Kk{ok okp:nP}{lv:Nat}(p:Po)(vt vr vk vo:Value)(t:Nat)(ht:t<=2)(vp:Value)(parts:List Rs)(w:World)(hp:fN lv w okp p vt vr vk vo)(h:aH Kg w ok vp parts)(hn:(parts.map (·.2.length)).sum<=900000)(ho:p.aC7.length<=50000)(ba:parts.length<=100000):
 Calls prog 191 #[.agg #[.string p.id,.bool p.set,.int .i64 p.alg,vt,vr,vk,vo],.int .i64 t,vp] w (mW (rK p.alg p.aC7 t parts) w):=by
 obtain⟨ta,tc,rfl,_⟩:=hp.2.2.1.slice;obtain⟨ra,rc,rfl,_⟩:=hp.2.2.2.1.slice;obtain⟨ka,kc,rfl,_⟩:=hp.2.2.2.2.1.slice;obtain⟨oa,oc,rfl,_⟩:=hp.2.2.2.2.2.slice;obtain⟨pa,pc,rfl,bx⟩:=h.slice;have HS:=aA h;have HOB:=aA hp.2.2.2.2.2;obtain⟨S,aq⟩:∃S:Obj,S=.cells (kG p ta tc ra rc ka kc oa oc) 38:=⟨_,rfl⟩;obtain⟨T,ar⟩:∃T:Obj,T=.cells #[.complex .f64 0 0,.slice none 0 0] 124:=⟨_,rfl⟩;obtain⟨W0,ah⟩:=xE ((w.alloc S).alloc T);have av:=aA (ah▸LG w S T:Kp w w.heap.size (w.heap.size+1) S T W0);rw[aq,ar] at ah;obtain⟨bo,bk,bl⟩:=aY ah aq ar;have N:∀x∈parts.map (·.1),Cm.fM x=true:=fun x Q=>by
  obtain⟨r,hr,rfl⟩:=List.mem_map.1 Q;obtain⟨k,hk,rfl⟩:=List.getElem_of_mem hr;obtain⟨_,_,_,_,_,_,⟨_,_,hh⟩,_⟩:=aH.at kI h hk qe;exact hh.1
 have bh:=aA N;obtain⟨m,hm⟩:∃m,BU p.alg (parts.map (·.1))=m:=⟨_,rfl⟩;have az:=aA (hm▸PQ p.alg (parts.map (·.1)) N:Cm.fM m=true);have au:=aA (fun (a:oD) (c:Nat) (w':World) (hs:Sl w' w'.heap.size a (Cm.vm (parts.map (·.1))))=>Cm.ZV p.alg a c parts.length (parts.map (·.1)) (by rw[List.length_map]) w' _ (by unfold maxLen;omega) (fun x Q=>yW (N x Q)) hs);have ay:=aA ((Vr p.alg (parts.map (·.1)) N).trans hm);have z:Hid (rK p.alg p.aC7 t parts=if t=0 then ((0,0),[]) else if t=1 then (tR m,[]) else if m≠(4,0)/\m≠(0,4) then (m,[]) else (m,gG (decide (p.alg=3)) m parts++gO p.aC7 m)):=aA (by unfold rK;simp only[hm]);obtain⟨J,hJ⟩:∃J,rK p.alg p.aC7 t parts=J:=⟨_,rfl⟩;rw[hJ] at z ⊢;obtain⟨HN,bm,bn⟩:=aY hn ho ba;have bz:=uE;obtain⟨alg,br⟩:∃alg,p.alg=alg:=⟨_,rfl⟩;clear h hp ah aq ar N hm hJ hn ho ba br alg;go_enter func191,ntmps191;go_wp2;rw[<-bo.o];go_loopw [7,17] (fun v i wr=>∃(k:Nat) (a':oD) (c':Nat),k<=parts.length/\i=.int .i64 k/\v=.slice a' k c'/\Hid (aM Yq 1 76 wr W0.heap.size (fun _=>True) (.slice a' k c') ((parts.take k).map (·.1)))/\Hid (Below W0.heap.size W0 wr)) (fun _ i _=>parts.length - (intOf i).toNat)
 case atStart=>exact⟨0,none,0,qo,rfl,rfl,aA aM.nil,aA (Below.refl _ _)⟩
 case round=>
  obtain⟨k,a',c',hk,rfl,rfl,HG,G⟩:=hrel;by_cases y:k<parts.length
  .have M:(k:Int)<(parts.length:Int):=qo;obtain⟨b,off,r,rfl,_,a7,⟨vx,rfl,d⟩,j⟩:=aH.at kI (HS.o.on kI (aC av.o.1 G.o)) y qe;obtain⟨xa,xc,rfl,_⟩:=d.2.slice;have B:=j 0 _ rfl;have x1:=j 1 _ rfl;rw[Nat.add_zero] at B;obtain⟨HTF,bf,ax,HSZ⟩:=dG (Qd parts k y) d.1 (show ((parts.take k).map (·.1)).length=k by rw[List.length_map,List.length_take];omega) G.o.size;clear j d;generalize parts[k]=x at *;have bd:=qB G (aB wr (.cells #[.complex .f64 (Cm.qb x.1.1) (Cm.qb x.1.2),.slice xa x.2.length xc] 124));obtain⟨be,bj,HG2⟩:=aY (aC bd.o (aB _ (.cells #[.complex .f64 (Cm.qb x.1.1) (Cm.qb x.1.2)] 76))) (aK (wr.alloc (.cells #[.complex .f64 (Cm.qb x.1.1) (Cm.qb x.1.2),.slice xa x.2.length xc] 124)) (.cells #[.complex .f64 (Cm.qb x.1.1) (Cm.qb x.1.2)] 76) (wr.heap.size+1) qs) (HG.o.on Kf (aC (aB wr (.cells #[.complex .f64 (Cm.qb x.1.1) (Cm.qb x.1.2),.slice xa x.2.length xc] 124)) (aB _ (.cells #[.complex .f64 (Cm.qb x.1.1) (Cm.qb x.1.2)] 76))));clear HG;go_wp2_with (at_builtin;refine cC (base:=W0.heap.size) aCz Kf rfl (.tmp 21) (.tmp 24) rfl _ ((parts.take k).map (·.1)) rfl HG2.o (wr.heap.size+1) 1 _ _ _ x.1 rfl bj.o ⟨rfl,bf.o⟩ (by rw[ax.o];have:=bn.o;omega) qo (by have:=HSZ.o;simp only[World.size_alloc];omega) ?_;intro l' s A' c2 A hG hgr hat';have HG9:=aA hG;have HB9:=aA (HG2.o.below be.o hgr (lR _) (by have:=HSZ.o;simp only[World.size_alloc];omega));have HL9:=aA s.o;clear hG hgr hat' s)
   have e9:l'.length=k+1:=by rw[HL9.o,aL,ax.o];rfl
   exact QBV
  .have M:¬(k:Int)<(parts.length:Int):=qo;obtain rfl:k=parts.length:=qo;obtain⟨wo,rfl⟩:∃wo:World,wo=wr:=⟨_,rfl⟩;have hG:=HG.o;rw[List.take_of_length_le (lR _)] at hG;obtain⟨cs,h1,h2⟩:=hG;have bs:=VN h2;subst bs;obtain⟨aw,cw,H,_,h3,_⟩:=lM h1;injection H with H e2 I;subst H I;have U:=aA (au.o a' c' wo h3);have ai:=aA (av.o.on G.o);have PB:=aA (by have h:=ai.o.2.1;rw[bk.o] at h;exact h:wo.heap[w.heap.size]? =some (.cells (kG p ta tc ra rc ka kc oa oc) 38 (0,0)));have RB:=aA (by have h:=ai.o.2.2;rw[bl.o] at h;exact h:wo.heap[w.heap.size+1]? =some (.cells #[.complex .f64 0 0,.slice none 0 0] 124 (0,0)));clear h1 h2 h3 e2 HG G;obtain⟨⟨v0,v1,v2,v3,v4,v5,v6⟩,_⟩:=bJ PB.o;obtain⟨⟨u0,u1⟩,f0,f1⟩:=fK RB.o;have zv:=aD PB.o;have zu:=aD RB.o;unfold Cm.mkE at U;rw[ay.o] at U;go_wp2_with fail;refine U.o.mono ?_;rintro e wx ⟨rfl,rfl⟩;clear U;clear v0 v1 v2 v3 v4 v5 v6 zv;have HBW:=aA ai.o.1;have bu:t=0\/t=1\/t=2:=qo
   rcases bu with bb|bc|bt
   .have a6:((t:Int)==0)=true:=bQ.2 qo;have HJ2:=aA (by have h:=z.o;rwa [iP bb] at h:J=((0,0),[]));clear z bb ht;exact QCI
   .have a6:((t:Int)==0)=false:=bN.2 qo;have bq:((t:Int)==1)=true:=bQ.2 qo;have HJ2:=aA (by have h:=z.o;rwa [iN qo,iP bc] at h:J=(tR m,[]));have bg:Hid (∀w,Calls prog 232 #[.complex .f64 (Cm.qb m.1) (Cm.qb m.2)] w fun e w'=>e=.returned (.complex .f64 (Cm.qb (tR m).1) (Cm.qb (tR m).2))/\w=w'):=aA (fun w=>Cm.aAY m (yW az.o) w);generalize tR m=mi at *;clear z bc ht;go_wp2_with fail;refine(bg.o _).mono ?_;rintro e wx ⟨rfl,rfl⟩;go_wp2;refine bR (.agg #[.complex .f64 (Cm.qb mi.1) (Cm.qb mi.2),.slice none 0 0]) ?_;exact tE (a:=mi.1) (b:=mi.2) HJ2.o (nW HBW.o (Nat.le_succ _)) rfl rfl
   .have a6:((t:Int)==0)=false:=bN.2 qo;have bq:((t:Int)==1)=false:=bN.2 qo;have HJ2:=aA (by have h:=z.o;rwa [iN qo,iN qo] at h:J=if m≠(4,0)/\m≠(0,4) then (m,[]) else (m,gG (decide (p.alg=3)) m parts++gO p.aC7 m));obtain⟨PP,K⟩:∃P,decide (m=(4,0))=P:=⟨_,rfl⟩;obtain⟨DD,hD⟩:∃D,decide (m=(0,4))=D:=⟨_,rfl⟩;have F:=yW az.o;have W:Hid (((FloatKind.f64.format.order (Cm.qb m.1) 4607182418800017408==some .eq)&&(FloatKind.f64.format.order (Cm.qb m.2) 0==some .eq))=PP):=aA ((Cm.iU m.1 m.2 4 0 F qe qe).trans ((sD m (4,0)).trans K));have X:Hid (((FloatKind.f64.format.order (Cm.qb m.1) 0==some .eq)&&(FloatKind.f64.format.order (Cm.qb m.2) 4607182418800017408==some .eq))=DD):=aA ((Cm.iU m.1 m.2 0 4 F qe qe).trans ((sD m (0,4)).trans hD));have Y:Hid (∀x:Mk,Cm.fM x=true->((FloatKind.f64.format.order (Cm.qb x.1) (Cm.qb m.1)==some .eq)&&(FloatKind.f64.format.order (Cm.qb x.2) (Cm.qb m.2)==some .eq))=decide (x=m)):=aA (fun x Q=>(Cm.iU x.1 x.2 m.1 m.2 (yW Q) F.1 F.2).trans (sD x m));have HDU:Hid (∀w' ok v,aH jU w' ok v p.aC7->Calls prog 233 #[v,.complex .f64 (Cm.qb m.1) (Cm.qb m.2)] w' (wM (gO p.aC7 m) w')):=aA (fun w' ok v h=>yA v p.aC7 m F w' h);have HDL:Hid ((gO p.aC7 m).length<=50000):=aA (lT (List.length_filter_le _ _) bm.o);obtain⟨ma,an⟩:∃ma,Cm.qb m.1=ma:=⟨_,rfl⟩;obtain⟨mb,ao⟩:∃mb,Cm.qb m.2=mb:=⟨_,rfl⟩;rw[an,ao] at W X Y HDU ⊢;have HMA2:=aA an;have HMB2:=aA ao;unfold wM at HDU;have aj:Hid ((PP=false/\DD=false/\J=(m,[]))\/((PP=true\/(PP=false/\DD=true))/\J=(m,gG (decide (p.alg=3)) m parts++gO p.aC7 m))):=aA (by
     have hj:=HJ2.o;by_cases h4:m=(4,0)
     .rw[iN (fun h=>h.1 h4)] at hj;exact .inr ⟨.inl (by rw[<-K];exact dX h4),hj⟩
     .by_cases h5:m=(0,4)
      .rw[iN (fun h=>h.2 h5)] at hj;exact .inr ⟨.inr ⟨by rw[<-K];exact dF h4,by rw[<-hD];exact dX h5⟩,hj⟩
      .rw[iP ⟨h4,h5⟩] at hj;exact .inl ⟨by rw[<-K];exact dF h4,by rw[<-hD];exact dF h5,hj⟩)
    clear z HJ2 K hD an ao F bt ht ay au bh
    rcases aj.o with ⟨rfl,rfl,hj⟩|⟨a8,hj⟩
    .have HJ3:=aA hj;have H:=W.o;have e2:=X.o;clear hj Y aj;go_wp2;refine bR (.agg #[.complex .f64 ma mb,.slice none 0 0]) ?_;exact tE (a:=m.1) (b:=m.2) HJ3.o (nW HBW.o (Nat.le_succ _)) HMA2.o HMB2.o
    have HJ3:=aA hj;have a1:=aA a8;clear hj a8 aj u0 u1 f0 f1 zu;obtain⟨RES,O⟩:=xE (gG (decide (p.alg=3)) m parts);rw[<-O] at HJ3;obtain⟨first,al⟩:∃f,decide (p.alg=3)=f:=⟨_,rfl⟩;rw[al] at O;have HR0:=aA (by rw[List.nil_append,List.drop_zero];exact O.symm:([]:List Ob)++gG first m (parts.drop 0)=RES);have HRL:Hid (RES.length<=900000):=aA (by rw[O];exact lT (LL _ _ _) HN.o);have bw:(p.alg==3)=first:=al
    obtain⟨W2,L⟩:=xE (wo.alloc (.cells #[.complex .f64 ma mb,.slice none 0 0] 124));obtain⟨bp,OB0,HZ2,HB0,HZ0⟩:=gC L (L▸aK wo (.cells #[.complex .f64 ma mb,.slice none 0 0] 124) _ rfl:W2.heap[wo.heap.size]? =some (.cells #[.complex .f64 ma mb,.slice none 0 0] 124 (0,0))) (by rw[L,World.size_alloc]:W2.heap.size=wo.heap.size+1) (L▸aB wo _:Below wo.heap.size wo W2) (aD RB.o);clear O al L;go_upto_region 12 with (fail)
    go_cut [44] from 45 to 50 (fun v w'=>v=.bool false/\wo=w')
    case first=>
     rcases a1.o with rfl|⟨rfl,rfl⟩
     all_goals
      have H:=W.o;have e2:=X.o;go_wp2;go_meet;exact⟨rfl,rfl⟩
    case rest=>
     obtain⟨hv,hw⟩:=hcut;subst hv;subst hw;clear W X a1;go_wp2;rw[<-bp.o]
     rcases first with _|_
     .go_loopw [57] (fun i wr=>∃(k n:Nat) (a2:oD) (c2:Nat) (st:List Ob),k<=parts.length/\i=.int .i64 k/\Hid (n=st.length)/\Hid (wr.heap[wo.heap.size]? =some (.cells #[.complex .f64 ma mb,.slice a2 n c2] 124 (0,0)))/\Hid (aM jU 3 194 wr W2.heap.size (fun b=>b≠wo.heap.size) (.slice a2 n c2) st)/\Hid (st++gG false m (parts.drop k)=RES)/\Hid (Below wo.heap.size wo wr)/\Hid (W2.heap.size<=wr.heap.size)) (fun i _=>parts.length - (intOf i).toNat)
      case atStart=>exact QDa
      case round=>
       clear HR0 OB0 HB0;obtain⟨k,n,a2,c2,st,hk,rfl,HNS,OBQ,HG,HST,HBQ,HSZ⟩:=hrel;have PBQ:=qK PB HBQ.o;by_cases y:k<parts.length
       .have M:(k:Int)<(parts.length:Int):=qo;obtain⟨b,off,r,rfl,_,a7,⟨vx,rfl,d⟩,j⟩:=aH.at kI ((HS.o.inb kI).aC0 kI (aJ (aC HBW.o HBQ.o))) y qe;obtain⟨xa,xc,rfl,_⟩:=d.2.slice;have B:=j 0 _ rfl;have x1:=j 1 _ rfl;rw[Nat.add_zero] at B;obtain⟨HPS,HX3,ak⟩:=aY (GY (first:=false) (m:=m) y) (Y.o parts[k].1 d.1) d.2;clear j d;generalize parts[k]=x at *;obtain⟨eq,heq⟩:∃q,decide (x.1=m)=q:=⟨_,rfl⟩;rw[heq] at HX3;have I:=HX3.o;obtain⟨⟨y0,y1⟩,g0,g1⟩:=fK OBQ.o;have zy:=aD OBQ.o;obtain⟨⟨v0,v1,v2,v3,v4,v5,v6⟩,_⟩:=bJ PBQ.o;have zv:=aD PBQ.o
        cases eq
        .have HST2:Hid (st++gG false m (parts.drop (k+1))=RES):=aA (by have h:=HST.o;rwa [HPS.o,iP (of_decide_eq_false heq)] at h);exact QAK
        .have R:x.1=m:=of_decide_eq_true heq;have HST2:=aA (by have h:=HST.o;rwa [HPS.o,iN (fun h=>h R)] at h:st++(if false=true then x.2 else x.2++gG false m (parts.drop (k+1)))=RES);have aa:Hid (st.length+x.2.length<=900000):=aA (by
          have h1:=HRL.o;rw[<-HST2.o,aL] at h1;split at h1
          .omega
          .rw[aL] at h1;omega)
         have l:=aA (aB wr (.cells #[.complex .f64 (Cm.qb x.1.1) (Cm.qb x.1.2),.slice xa x.2.length xc] 124));obtain⟨HG2,OBQ2,HBQ2⟩:=aY (HG.o.on aP l.o) (aE OBQ.o l.o) (aC HBQ.o l.o);have C:=aA (HG2.o.lt);have ad:=aA (aH.more aP (aH.on aP ak.o l.o) (ok':=fun b=>b≠wo.heap.size/\b<(wr.alloc (.cells #[.complex .f64 (Cm.qb x.1.1) (Cm.qb x.1.2),.slice xa x.2.length xc] 124)).heap.size/\some b≠(Value.slice a2 n c2).ownBlock) (fun b hb=>⟨qD hb.2 HZ0.o,by have h1:=hb.2;have h2:=HZ0.o;have h3:=HBQ2.o.size;omega,fun e=>by
          have h1:=(C.o b e.symm).1;have h2:=hb.2;have h3:=HZ2.o;have h4:=HZ0.o;omega⟩))
         have ag:=aA (aD OBQ2.o);have HSZ2:Hid (W2.heap.size<=(wr.alloc (.cells #[.complex .f64 (Cm.qb x.1.1) (Cm.qb x.1.2),.slice xa x.2.length xc] 124)).heap.size):=aA (by have:=HSZ.o;rw[World.size_alloc];omega);clear heq HPS HST HG HX3 R;go_wp2_with (at_builtin;refine AU (base:=W2.heap.size) VM aP rfl (.tmp 66) (.tmp 68) rfl _ st rfl HG2.o _ x.2 rfl ad.o (qA aa.o) qe HSZ2.o ?_;intro l' s A' c3 A hG hgr hat';have HG9:=aA hG;have HL9:=aA s.o;have o:=aA ((hgr.block _ ag.o (fun e=>by have h1:=(C.o _ e.symm).1;have h2:=HZ2.o;omega)).trans OBQ2.o);have HB9:=aA (HG2.o.below HBQ2.o hgr (qA HZ2.o) HSZ2.o);have ab:=aA (lT HSZ2.o hgr.size);obtain⟨⟨s0,s1⟩,t0,t1⟩:=fK o.o;have zs:=aD o.o;clear y0 y1 g0 g1 zy v0 v1 v2 v3 v4 v5 v6 zv B x1 I hG hgr hat' s;have E:=qK PB HB9.o;obtain⟨⟨v0,v1,v2,v3,v4,v5,v6⟩,_⟩:=bJ E.o;have zv:=aD E.o)
         have af:Hid ((A.setCell ⟨wo.heap.size,1,none⟩ (.slice A' l'.length c3)).heap[wo.heap.size]? =some (.cells #[.complex .f64 ma mb,.slice A' l'.length c3] 124 (0,0))):=aA (aG o.o 1 (.slice A' l'.length c3));have Z:=aA (HG9.o.aC0 aP (ok':=fun b=>b≠wo.heap.size) (aI (g:=wo.heap.size) (i:=1) (.slice A' l'.length c3)) (fun b hb _=>hb) (fun b hb _=>qA HZ2.o));have ae:Hid (W2.heap.size<=(A.setCell ⟨wo.heap.size,1,none⟩ (.slice A' l'.length c3)).heap.size):=aA (lT ab.o (aI (g:=wo.heap.size) (i:=1) (.slice A' l'.length c3)).size);have V:=aA (HB9.o.setCell (p:=⟨wo.heap.size,1,none⟩) (lR _) (.slice A' l'.length c3));go_wp2;go_roundw
         case rel=>exact⟨k+1,l'.length,A',c3,l',qo,by go_num,aA rfl,af,Z,aA (by have h:=HST2.o;rw[iN qe,<-List.append_assoc,<-HL9.o] at h;exact h),V,ae⟩
         case measure=>simp[intOf];omega
       .have M:¬(k:Int)<(parts.length:Int):=qo;obtain rfl:k=parts.length:=qo;have HRS:Hid (st=RES):=aA (by have h:=HST.o;rw[List.drop_length] at h;have e:gG false m []=[]:=rfl;rwa [e,List.append_nil] at h);exact QAd
     .go_loopw [57] (fun i wr=>∃(k n:Nat) (a2:oD) (c2:Nat) (st:List Ob),k<=parts.length/\i=.int .i64 k/\Hid (n=st.length)/\Hid (wr.heap[wo.heap.size]? =some (.cells #[.complex .f64 ma mb,.slice a2 n c2] 124 (0,0)))/\Hid (aM jU 3 194 wr W2.heap.size (fun b=>b≠wo.heap.size) (.slice a2 n c2) st)/\Hid (st++gG true m (parts.drop k)=RES)/\Hid (Below wo.heap.size wo wr)/\Hid (W2.heap.size<=wr.heap.size)) (fun i _=>parts.length - (intOf i).toNat)
      case atStart=>exact QDa
      case round=>
       clear HR0 OB0 HB0;obtain⟨k,n,a2,c2,st,hk,rfl,HNS,OBQ,HG,HST,HBQ,HSZ⟩:=hrel;have PBQ:=qK PB HBQ.o;by_cases y:k<parts.length
       .have M:(k:Int)<(parts.length:Int):=qo;obtain⟨b,off,r,rfl,_,a7,⟨vx,rfl,d⟩,j⟩:=aH.at kI ((HS.o.inb kI).aC0 kI (aJ (aC HBW.o HBQ.o))) y qe;obtain⟨xa,xc,rfl,_⟩:=d.2.slice;have B:=j 0 _ rfl;have x1:=j 1 _ rfl;rw[Nat.add_zero] at B;obtain⟨HPS,HX3,ak⟩:=aY (GY (first:=true) (m:=m) y) (Y.o parts[k].1 d.1) d.2;clear j d;generalize parts[k]=x at *;obtain⟨eq,heq⟩:∃q,decide (x.1=m)=q:=⟨_,rfl⟩;rw[heq] at HX3;have I:=HX3.o;obtain⟨⟨y0,y1⟩,g0,g1⟩:=fK OBQ.o;have zy:=aD OBQ.o;obtain⟨⟨v0,v1,v2,v3,v4,v5,v6⟩,_⟩:=bJ PBQ.o;have zv:=aD PBQ.o
        cases eq
        .have HST2:Hid (st++gG true m (parts.drop (k+1))=RES):=aA (by have h:=HST.o;rwa [HPS.o,iP (of_decide_eq_false heq)] at h);exact QAK
        .have R:x.1=m:=of_decide_eq_true heq;have HST2:=aA (by have h:=HST.o;rwa [HPS.o,iN (fun h=>h R)] at h:st++(if true=true then x.2 else x.2++gG true m (parts.drop (k+1)))=RES);have aa:Hid (st.length+x.2.length<=900000):=aA (by
          have h1:=HRL.o;rw[<-HST2.o,aL] at h1;split at h1
          .omega
          .rw[aL] at h1;omega)
         have l:=aA (aB wr (.cells #[.complex .f64 (Cm.qb x.1.1) (Cm.qb x.1.2),.slice xa x.2.length xc] 124));obtain⟨HG2,OBQ2,HBQ2⟩:=aY (HG.o.on aP l.o) (aE OBQ.o l.o) (aC HBQ.o l.o);have C:=aA (HG2.o.lt);have ad:=aA (aH.more aP (aH.on aP ak.o l.o) (ok':=fun b=>b≠wo.heap.size/\b<(wr.alloc (.cells #[.complex .f64 (Cm.qb x.1.1) (Cm.qb x.1.2),.slice xa x.2.length xc] 124)).heap.size/\some b≠(Value.slice a2 n c2).ownBlock) (fun b hb=>⟨qD hb.2 HZ0.o,by have h1:=hb.2;have h2:=HZ0.o;have h3:=HBQ2.o.size;omega,fun e=>by
          have h1:=(C.o b e.symm).1;have h2:=hb.2;have h3:=HZ2.o;have h4:=HZ0.o;omega⟩))
         have ag:=aA (aD OBQ2.o);have HSZ2:Hid (W2.heap.size<=(wr.alloc (.cells #[.complex .f64 (Cm.qb x.1.1) (Cm.qb x.1.2),.slice xa x.2.length xc] 124)).heap.size):=aA (by have:=HSZ.o;rw[World.size_alloc];omega);clear heq HPS HST HG HX3 R;go_wp2_with (at_builtin;refine AU (base:=W2.heap.size) VM aP rfl (.tmp 66) (.tmp 68) rfl _ st rfl HG2.o _ x.2 rfl ad.o (qA aa.o) qe HSZ2.o ?_;intro l' s A' c3 A hG hgr hat';have HG9:=aA hG;have HL9:=aA s.o;have o:=aA ((hgr.block _ ag.o (fun e=>by have h1:=(C.o _ e.symm).1;have h2:=HZ2.o;omega)).trans OBQ2.o);have HB9:=aA (HG2.o.below HBQ2.o hgr (qA HZ2.o) HSZ2.o);have ab:=aA (lT HSZ2.o hgr.size);obtain⟨⟨s0,s1⟩,t0,t1⟩:=fK o.o;have zs:=aD o.o;clear y0 y1 g0 g1 zy v0 v1 v2 v3 v4 v5 v6 zv B x1 I hG hgr hat' s;have E:=qK PB HB9.o;obtain⟨⟨v0,v1,v2,v3,v4,v5,v6⟩,_⟩:=bJ E.o;have zv:=aD E.o)
         have af:Hid ((A.setCell ⟨wo.heap.size,1,none⟩ (.slice A' l'.length c3)).heap[wo.heap.size]? =some (.cells #[.complex .f64 ma mb,.slice A' l'.length c3] 124 (0,0))):=aA (aG o.o 1 (.slice A' l'.length c3));have Z:=aA (HG9.o.aC0 aP (ok':=fun b=>b≠wo.heap.size) (aI (g:=wo.heap.size) (i:=1) (.slice A' l'.length c3)) (fun b hb _=>hb) (fun b hb _=>qA HZ2.o));have ae:Hid (W2.heap.size<=(A.setCell ⟨wo.heap.size,1,none⟩ (.slice A' l'.length c3)).heap.size):=aA (lT ab.o (aI (g:=wo.heap.size) (i:=1) (.slice A' l'.length c3)).size);have V:=aA (HB9.o.setCell (p:=⟨wo.heap.size,1,none⟩) (lR _) (.slice A' l'.length c3));have HRS:Hid (l'=RES):=aA (by have h:=HST2.o;rw[iP trivial,<-HL9.o] at h;exact h);have n3:¬w.heap.size=wo.heap.size:=qA HZ0.o;have n4:¬wo.heap.size=w.heap.size:=qA HZ0.o;go_wp2;obtain⟨WW,hWW⟩:∃WW:World,WW=A.setCell ⟨wo.heap.size,1,none⟩ (.slice A' l'.length c3):=⟨_,rfl⟩;rw[<-hWW] at af Z ae V ⊢;clear hWW;clear s0 s1 t0 t1 zs v0 v1 v2 v3 v4 v5 v6 zv HST2 HG2 OBQ2 HBQ2 HSZ2 o HG9 HB9 ab E C ad ag l PBQ aa;obtain⟨OBWW,HGW,HBT,HSW⟩:=dG af.o Z.o V.o ae.o;have PBWW:=qK PB HBT.o;obtain⟨⟨y0,y1⟩,g0,g1⟩:=fK OBWW.o;have zy:=aD OBWW.o;obtain⟨⟨v0,v1,v2,v3,v4,v5,v6⟩,_⟩:=bJ PBWW.o;have zv:=aD PBWW.o;have RBWW:=qK RB HBT.o;have HDW:=aA (fun (w':World) (hb:Below WW.heap.size WW w')=>HDU.o w' okp _ (HOB.o.on aP (aC HBW.o (aC HBT.o hb))));go_region_law (first
          |(go_simp;go_at_call 233;refine(HDW.o _ (Below.refl _ _).drew).mono ?_;rintro e wd ⟨dv,rfl,hds,hbd⟩;obtain⟨da,dc,rfl,_⟩:=hds.slice;have HBD:=aA (aC (Below.refl WW.heap.size WW).drew hbd);have HDS:=aA (hds.inb aP);have OBD:=qK OBWW HBD.o;obtain⟨⟨z0,z1⟩,h0,h1⟩:=fK OBD.o;have zz:=aD OBD.o;clear hbd hds)
          |(refine VT (base:=W2.heap.size) VM aP rfl (.tmp 76) (.tmp 80) rfl _ l' rfl (HGW.o.on aP HBD.o) _ (gO p.aC7 m) rfl (aH.more aP HDS.o (fun b hb=>⟨by have h1:=hb.1;have h2:=aD OBWW.o;have h3:WW.heap.size<=b:=h1;omega,hb.2,fun e=>by have h1:WW.heap.size<=b:=hb.1;have h2:=(HGW.o.lt b e.symm).2;omega⟩)) (by have h1:=HRL.o;have h2:=HDL.o;rw[<-HRS.o] at h1;omega) qe (lT HSW.o HBD.o.size) ?_;intro l2 hl2 A2 c4 w10 hG hgr hat';have HG10:=aA hG;have HL10:=aA hl2.o;have HB10:=aA ((HGW.o.on aP HBD.o).below (aC HBT.o HBD.o) hgr (qA HZ2.o) (lT HSW.o HBD.o.size));have OB10:=aA ((hgr.block wo.heap.size zz (fun e=>by have h1:=(HGW.o.lt _ e.symm).1;have h2:=HZ2.o;omega)).trans OBD.o);obtain⟨⟨s0',s1'⟩,t0',t1'⟩:=fK OB10.o;have zs':=aD OB10.o;clear hG hgr hat' hl2))
         all_goals
          have RB10:=qK RB HB10.o;obtain⟨⟨u0,u1⟩,f0,f1⟩:=fK RB10.o;have zu:=aD RB10.o;have n1:¬w.heap.size+1=wo.heap.size:=qA HZ0.o;have n2:¬wo.heap.size=w.heap.size+1:=qA HZ0.o;go_wp2;refine bR (.agg #[.complex .f64 ma mb,.slice A2 l2.length c4]) ?_;refine⟨.slice A2 l2.length c4,by rw[HJ3.o,HMA2.o,HMB2.o],?_,nW (aC HBW.o (HB10.o.setCell (p:=⟨wo.heap.size,1,none⟩) (lR _) _)) (Nat.le_succ _)⟩;have hsl:=(eJ (enc:=EH) (good:=yG) (ok':=fun b=>W2.heap.size<=b) HG10.o).sl (by rw[HL10.o,aL,HRS.o];have h1:=HRL.o;have h2:=HDL.o;omega) (fun b=>W2.heap.size<=b) (fun b hb _=>hb) (fun b hb _=>hb) aP;rw[HJ3.o];have e10:l2=RES++gO p.aC7 m:=by rw[HL10.o,HRS.o]
          rw[<-e10];refine aH.more aP (aH.aC0 aP hsl (((aI (g:=wo.heap.size) (i:=1) _).mono fun k hk hb=>by have h1:W2.heap.size<=k:=hb;have h2:=HZ2.o;show k≠wo.heap.size;omega).trans ((((aI (g:=w.heap.size+1) (i:=0) _).trans (aI (g:=w.heap.size+1) (i:=1) _)).mono fun k hk hb=>by have h1:W2.heap.size<=k:=hb;have h2:=HZ2.o;have h3:=HZ0.o;show k≠w.heap.size+1;omega)))) (fun b hb=>by have h1:W2.heap.size<=b:=hb;have h2:=HZ2.o;have h3:=HZ0.o;show w.heap.size<=b;omega)
       .have M:¬(k:Int)<(parts.length:Int):=qo;obtain rfl:k=parts.length:=qo;have HRS:Hid (st=RES):=aA (by have h:=HST.o;rw[List.drop_length] at h;have e:gG true m []=[]:=rfl;rwa [e,List.append_nil] at h);exact QAd
def JF:Nat->Po->Prop
 |0,_=>False
 |n+1,p=>p.aCT.length<=16/\p.aC5.length<=16/\p.aC7.length<=8/\(∀r∈p.aCT,r.aC7.length<=8)/\∀k∈p.aC5,JF n k
def yB:Nat->Nat
 |0=>0
 |n+1=>136+16 * yB n
theorem LM{l:List Ob}(h:lC l=0):l.length<=8:=by
 unfold lC at h;by_cases h8:8<l.length
 .rw[iP h8] at h;exact absurd h qe
 .omega
theorem Ep{r:Ru}{s:WS}(h:(fS r s).1=0):r.aC7.length<=8:=by
 unfold fS at h;generalize gN r.id s=q at *;obtain⟨b,s1⟩:=q;simp only at h;by_cases h1:b=false
 .rw[iP h1] at h;simp at h
 rw[iN h1] at h;by_cases h2:64<s1.aCT+1
 .rw[iP h2] at h;simp at h
 rw[iN h2] at h;by_cases h3:eX r.aC1=0
 case neg=>rw[iP h3] at h;exact absurd h h3
 rw[iN (fun a=>a h3)] at h;by_cases h4:lB r.cond=0
 case neg=>rw[iP h4] at h;exact absurd h h4
 rw[iN (fun a=>a h4)] at h;exact LM h
theorem Er{p:Po}{s:WS}(h:(fI p s).1=0):p.aC7.length<=8:=by
 unfold fI at h;generalize gN p.id s=q at *;obtain⟨b,s1⟩:=q;simp only at h;by_cases h1:b=false\/p.alg<1\/6<p.alg
 .rw[iP h1] at h;simp at h
 rw[iN h1] at h;by_cases h2:(p.set=true/\p.aCT≠[])\/(p.set=false/\(0<p.aC5.length\/p.alg=4))
 .rw[iP h2] at h;simp at h
 rw[iN h2] at h;by_cases h3:eX p.aC1=0
 case neg=>rw[iP h3] at h;exact absurd h h3
 rw[iN (fun a=>a h3)] at h;by_cases h4:lC p.aC7=0
 case neg=>rw[iP h4] at h;exact absurd h h4
 exact LM h4
theorem JG{α:Type}{f:α->WS->Int×WS}{Q:α->Prop}(b:∀x s,(f x s).1=0->Q x):∀(l:List α) (s:WS),(jC f l s).1=0->∀x∈l,Q x
 | [],_,_,x,a=>by cases a
 |y::l,s,h,x,a=>by
  unfold jC at h;by_cases h1:(f y s).1=0
  .rcases List.mem_cons.1 a with rfl|a
   .exact b _ _ h1
   .refine JG b l (f y s).2 ?_ x a;simp only[h1,ne_eq,not_true,if_false] at h;exact h
  .simp only[ne_eq,h1,not_false_iff,if_true] at h
theorem An:∀(n:Nat) (p:Po) (s:WS),(eN n p s).1=0->JF n p
 |0,_,_,h=>by simp[eN] at h
 |n+1,p,s,h=>by
  unfold eN at h;by_cases h1:(fI p s).1=0
  case neg=>simp only[ne_eq,h1,not_false_iff,if_true] at h
  simp only[h1,ne_eq,not_true,if_false] at h;by_cases h2:(jC fS p.aCT (fI p s).2).1=0
  case neg=>simp only[h2,not_false_iff,if_true] at h
  simp only[h2,not_true,if_false] at h;exact⟨(vD h1).1,(vD h1).2,Er h1,JG (fun x s a=>Ep a) _ _ h2,JG (fun x s a=>An n x s a) _ _ h⟩
theorem LN{p:Po}(h:fM p=0):JF 4 p:=An 4 p _ h
theorem LO(l:List Ob)(m:Mk):(gO l m).length<=l.length:=List.length_filter_le _ _
theorem Kl(g:List Gv)(r:Ru):(iC g r).2.length<=r.aC7.length:=by
 unfold iC EF;simp only;split
 .exact Nat.zero_le _
 split
 .exact Nat.zero_le _
 .exact LO _ _
theorem PV(first:Bool)(m:Mk):∀l:List (Mk×List Ob),(gG first m l).length<=(l.map (·.2.length)).sum
 | []=>Nat.zero_le _
 |x::l=>by
  have:=PV first m l
  unfold gG;rw[List.map_cons,List.sum_cons];split
  .omega
  split
  .omega
  .rw[aL];omega
theorem Km(alg:Int)(obls:List Ob)(t:Nat)(l:List (Mk×List Ob)):(rK alg obls t l).2.length<=(l.map (·.2.length)).sum+obls.length:=by
 unfold rK;simp only;split
 .exact Nat.zero_le _
 split
 .exact Nat.zero_le _
 split
 .exact Nat.zero_le _
 .have h1:=PV (decide (alg=3)) (BU alg (l.map (·.1))) l;have h2:=LO obls (BU alg (l.map (·.1)));rw[aL];omega
theorem VU{α:Type}(f:α->Nat)(b:Nat):∀l:List α,(∀x∈l,f x<=b)->(l.map f).sum<=l.length * b
 | [],_=>Nat.zero_le _
 |x::l,h=>by
  have h1:=VU f b l (fun y a=>h y (List.mem_cons_of_mem _ a));have h2:=h x (List.mem_cons_self ..);rw[List.map_cons,List.sum_cons,List.length_cons,Nat.add_mul];omega
theorem PX{n:Nat}{p:Po}(g:List Gv)(f:∀k∈p.aC5,(dB g n k).2.length<=yB n)(h:JF (n+1) p):((p.aCT.map (iC g)++p.aC5.map (dB g n)).map (·.2.length)).sum<=128+16 * yB n:=by
 obtain⟨h1,h2,_,h4,_⟩:=h;rw[List.map_append,List.sum_append,List.map_map,List.map_map];have a:=VU (fun r=>(iC g r).2.length) 8 p.aCT (fun r i=>lT (Kl g r) (h4 r i));have b:=VU (fun k=>(dB g n k).2.length) (yB n) p.aC5 f;have c:p.aC5.length * yB n<=16 * yB n:=Nat.mul_le_mul_right _ h2;have d:((fun x:Mk×List Ob=>x.2.length) ∘ iC g)=(fun r=>(iC g r).2.length):=rfl;have e:((fun x:Mk×List Ob=>x.2.length) ∘ dB g n)=(fun k=>(dB g n k).2.length):=rfl;rw[d,e];omega
theorem yC(g:List Gv):∀(n:Nat) (p:Po),JF n p->(dB g n p).2.length<=yB n
 |0,_,h=>h.elim
 |n+1,p,h=>by
  have b:=PX g (fun k a=>yC g n k (h.2.2.2.2 k a)) h;unfold dB yB;simp only;split
  .exact Nat.zero_le _
  .have hj:=Km p.alg p.aC7 (xP g p.aC1) (p.aCT.map (iC g)++p.aC5.map (dB g n));have:=h.2.2.1;omega
theorem Vs:∀n,n<=4->yB n<=600000:=qe
theorem Qe{n:Nat}(b:n<=3){p:Po}(g:List Gv)(h:JF (n+1) p):((p.aCT.map (iC g)++p.aC5.map (dB g n)).map (·.2.length)).sum<=900000:=by
 have h1:=PX g (fun k a=>yC g n k (h.2.2.2.2 k a)) h;have h2:∀n,n<=3->128+16 * yB n<=900000:=qe;have:=h2 n b;omega
theorem GZ(g:List Gv)(r:Ru):Cm.fM (iC g r).1=true:=by
 unfold iC EF;simp only;have hm:Cm.fM (if r.aDs=true then ((0,4):Mk) else (4,0))=true:=by split<;>decide
 split
 .decide
 split
 .exact GW hm
 .exact hm
theorem YO{n:Nat}{g:List Gv}{p:Po}(b:∀k,Cm.fM (dB g n k).1=true):∀m∈(p.aCT.map (iC g)++p.aC5.map (dB g n)).map (·.1),Cm.fM m=true:=by
 intro m hm;obtain⟨x,a,rfl⟩:=List.mem_map.1 hm
 rcases List.mem_append.1 a with a|a
 .obtain⟨r,_,rfl⟩:=List.mem_map.1 a;exact GZ g r
 .obtain⟨k,_,rfl⟩:=List.mem_map.1 a;exact b k
theorem uQ(g:List Gv):∀(n:Nat) (p:Po),Cm.fM (dB g n p).1=true
 |0,_=>by unfold dB;decide
 |n+1,p=>by
  have hp:=PQ p.alg _ (YO (n:=n) (g:=g) (p:=p) (fun k=>uQ g n k));unfold dB rK;simp only;split
  .rfl
  split
  .exact GW hp
  split
  .exact hp
  .exact hp
end Go.Proofs.YtbinmcabjnoliaaGreatDoor
