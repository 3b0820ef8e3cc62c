/- Part 26. -/
import Derived.Test.YtejafaaihodehaaGreatDoorZ25
set_option linter.all false
set_option maxRecDepth 100000
set_option maxHeartbeats 8000000
namespace Go.Proofs.YtejafaaihodehaaGreatDoor
open Go Go.RowKit Tryz
structure Ph(B b:Nat)(w w':World):Prop where
 os:w'.os=w.os
 tape:w'.tape=w.tape
 output:w'.output=w.output
 size:w.heap.size<=w'.heap.size
 block:∀k,k<B->k≠b->w'.heap[k]?=w.heap[k]?
theorem Ph.refl(B b:Nat)(w:World):Ph B b w w:=⟨rfl,rfl,rfl,dv _,fun _ _ _=>rfl⟩
theorem Ph.below{B b:Nat}{w W W':World}(h:Ph B b w W)(hb:Below B W W'):Ph B b w W':=
 ⟨hb.os.trans h.os,hb.tape.trans h.tape,hb.output.trans h.output,au h.size hb.size,fun k hk db=>(hb.block k hk).trans (h.block k hk db)⟩
theorem Ph.grown{B b:Nat}{w W W':World}{row:Option Nat}(h:Ph B b w W)(hg:W.grownBy W' row)(hr:∀k,row=some k->k=b\/B<=k)(hB:B<=W.heap.size):Ph B b w W':=
 ⟨hg.os.trans h.os,hg.tape.trans h.tape,hg.output.trans h.output,au h.size hg.size,fun k hk db=>
  (hg.block k (by omega) (fun e=>by rcases hr k e.symm with h|h<;>omega)).trans (h.block k hk db)⟩
structure Ct(w W:World)(base b:Nat)(s:ByteArray)(x:Rs)(X Y:Nat)(kd:Int)(nm:ByteArray)(va:Value)(at_:List bY):Prop where
 rs:gb W b s x
 gr:Ph base b w W
 hX:bL W X 75 #[.int .i64 kd,.string nm,va]
 hY:bL W Y 75 #[.int .i64 0,.string ⟨#[]⟩,.slice none 0 0]
 own:b8 W base 156 2 (fun _=>False) va (at_.map bY.gv)
 lb:b<base
 lX:base<=X
 lY:X<Y
 nX:va.ownBlock≠some X
 nY:va.ownBlock≠some Y
theorem Ct.step{w W W':World}{base b:Nat}{s:ByteArray}{x x':Rs}{X Y:Nat}{kd:Int}{nm:ByteArray}{va:Value}{at_:List bY}(h:Ct w W base b s x X Y kd nm va at_)
 (hg:W.grownBy W' (some b)) (hr:gb W' b s x'):Ct w W' base b s x' X Y kd nm va at_:=by
 have h1:=h.lb;have h2:=h.lX;have h3:=h.lY;have h4:=h.hX.lt;exact⟨hr,h.gr.grown hg (fun k hk=>.inl (by injection hk with hk;exact hk.symm)) (by omega),h.hX.grown hg (by simp;omega),h.hY.grown hg (by simp;omega),h.own.kept hg (.inr (h.own.ne h1)) (fun _ h=>h.elim),h1,h2,h3,h.nX,h.nY⟩
theorem Ct.below{w W W':World}{base b:Nat}{s:ByteArray}{x:Rs}{X Y:Nat}{kd:Int}{nm:ByteArray}{va:Value}{at_:List bY}(h:Ct w W base b s x X Y kd nm va at_)
 (hb:Below W.heap.size W W'):Ct w W' base b s x X Y kd nm va at_:=by
 have h2:=h.lX;have h4:=h.hX.lt;exact⟨h.rs.below hb,h.gr.below (hb.mono (by omega)),h.hX.below hb h.hX.lt,h.hY.below hb h.hY.lt,h.own.below hb,h.lb,h.lX,h.lY,h.nX,h.nY⟩
theorem Ct.start{w:World}{base b:Nat}{s:ByteArray}{x:Rs}(kd:Int)(nm:ByteArray){va:Value}{at_:List bY}(hr:gb w b s x)(ho:b8 w base 156 2 (fun _=>False) va (at_.map bY.gv))(hb:b<base)(eo:base<=w.heap.size):
 Ct w ((w.alloc (.cells #[.int .i64 kd,.string nm,va] 75)).alloc (.cells #[.int .i64 0,.string ⟨#[]⟩,.slice none 0 0] 75)) base b s x w.heap.size (w.heap.size+1) kd nm va at_:=by
 have dG:Below w.heap.size w ((w.alloc (.cells #[.int .i64 kd,.string nm,va] 75)).alloc (.cells #[.int .i64 0,.string ⟨#[]⟩,.slice none 0 0] 75)):=
  (cU _ _).alloc (by simp) _
 have hY:=bL.new (w.alloc (.cells #[.int .i64 kd,.string nm,va] 75)) 75 #[.int .i64 0,.string ⟨#[]⟩,.slice none 0 0];rw[size_alloc]at hY;refine⟨hr.below dG,(Ph.refl _ _ _).below (dG.mono eo),(bL.new w 75 #[.int .i64 kd,.string nm,va]).alloc _,hY,ho.below dG,hb,eo,by omega,?_,?_⟩
 ·intro e;have:=(ho.lt _ e).2;omega
 ·intro e;have:=(ho.lt _ e).2;omega
theorem Ia(x:Rs)(n:Int):(x.fail n).fail n=x.fail n:=by cases x<;>rfl
def AT(at_:List bY)(j:Nat)(v:Bt)(x:Rs):Rs:=if(at_.take j).any (fun p=>p.name==v)then x.fail 41 else x
theorem Ve(at_:List bY)(v:Bt)(x:Rs):AT at_ 0 v x=x:=by simp[AT]
theorem XI{at_:List bY}{j:Nat}(hj:j<at_.length){v:Bt}(x:Rs)(h:(at_[j].name==v)=true):AT at_ (j+1) v x=(AT at_ j v x).fail 41:=by
 unfold AT;rw[aC hj,bf,show([at_[j]].any fun p=>p.name==v)=true by simpa using h,Bool.or_true,ae rfl];split
 ·exact(Ia x 41).symm
 ·rfl
theorem Vf{at_:List bY}{j:Nat}(hj:j<at_.length){v:Bt}(x:Rs)(h:(at_[j].name==v)=false):AT at_ (j+1) v x=AT at_ j v x:=by
 unfold AT;rw[aC hj,bf,show([at_[j]].any fun p=>p.name==v)=false by simpa using h,Bool.or_false]
theorem XJ{at_:List bY}{v:Bt}{x y:Rs}(h:y=if at_.length=8 then(AT at_ at_.length v x).fail 41 else AT at_ at_.length v x):
 y=if(at_.any (fun x=>x.name==v)||decide (at_.length=8))then x.fail 41 else x:=by
 rw[h];unfold AT;rw[aM];by_cases h8:at_.length=8
 ·rw[ae h8,aS h8,Bool.or_true,ae rfl];split
  ·exact Ia x 41
  ·rfl
 ·rw[aa h8,aT h8,Bool.or_false]
def Vg(base b:Nat)(s:ByteArray)(w:World)(x:Rs)(kd:Int)(nm:ByteArray)(at_:List bY)(e:Ending)(w':World):Prop:=
 (∃va' at2,e=.returned (.agg #[.int .i64 kd,.string nm,va'])/\b8 w' base 156 2 (fun _=>False) va' (at2.map bY.gv)/\at2.length=at_.length+1/\
  ∀k Vh r k',x=.go k->qi at_ ((L s).drop k) k=.ok Vh r k'->Vh=at2)/\gb w' b s (x.after (L s) (qi at_))/\Ph base b w w'
theorem My{w W w6:World}{base b:Nat}{s:ByteArray}{x:Rs}{X Y:Nat}{kd:Int}{nm:ByteArray}{va v':Value}{at_ at2:List bY}(st:Ct w W base b s x X Y kd nm va at_)
 (ho:b8 w6 base 156 2 (fun _=>False) v' (at2.map bY.gv)) (hg:W.grownBy w6 va.ownBlock) (an5:v'.ownBlock=va.ownBlock\/v'.ownBlock=some W.heap.size) (x0 x1 x2:Value):
 bL w6 X 75 #[.int .i64 kd,.string nm,va]/\bL (w6.setCell ⟨X,2,none⟩ v') X 75 #[.int .i64 kd,.string nm,v']/\bL (w6.setCell ⟨X,2,none⟩ v') Y 75 #[.int .i64 0,.string ⟨#[]⟩,.slice none 0 0]/\
  gb (j5 (w6.setCell ⟨X,2,none⟩ v') Y x0 x1 x2) b s x/\Ph base b w (j5 (w6.setCell ⟨X,2,none⟩ v') Y x0 x1 x2)/\b8 (j5 (w6.setCell ⟨X,2,none⟩ v') Y x0 x1 x2) base 156 2 (fun _=>False) v' (at2.map bY.gv):=by
 have h1:=st.lb;have h2:=st.lX;have h3:=st.lY;have h4:=st.hX.lt;have h5:=st.hY.lt;have db:∀k,k<base\/k=X\/k=Y->some k≠va.ownBlock:=fun k hk e=>by
  rcases hk with hk|rfl|rfl
  ·exact st.own.ne hk e.symm
  ·exact st.nX e.symm
  ·exact st.nY e.symm
 have nX:v'.ownBlock≠some X:=fun e=>by
  rcases an5 with h|h
  ·exact st.nX (h.symm.trans e)
  ·rw[h]at e;injection e with e;omega
 have nY:v'.ownBlock≠some Y:=fun e=>by
  rcases an5 with h|h
  ·exact st.nY (h.symm.trans e)
  ·rw[h]at e;injection e with e;omega
 have Fb:=st.hX.grown hg (db X (.inr (.inl rfl)));have hY6:=st.hY.grown hg (db Y (.inr (.inr rfl)));have g1:w6.grownBy (w6.setCell ⟨X,2,none⟩ v') (some X):=bF (bR _ _) (.inl rfl) _;have g2:(w6.setCell ⟨X,2,none⟩ v').grownBy (j5 (w6.setCell ⟨X,2,none⟩ v') Y x0 x1 x2) (some Y):=kL (bR _ _) (.inl rfl) _ _ _;have hs6:=hg.size;have b1:Ph base b w w6:=st.gr.grown hg (fun k hk=>.inr (st.own.lt k hk).1) (by omega);have lQ:(w6.setCell ⟨X,2,none⟩ v').heap.size=w6.heap.size:=by simp[World.setCell]
 have b2:Ph base b w (w6.setCell ⟨X,2,none⟩ v'):=b1.grown g1 (fun k hk=>.inr (by injection hk with hk;omega)) (by omega);refine⟨Fb,Fb.cL 2 v',hY6.grown g1 (by simp;omega),?_,b2.grown g2 (fun k hk=>.inr (by injection hk with hk;omega)) (by omega),?_⟩
 ·exact((st.rs.grown hg (db b (.inl h1))).grown g1 (by simp;omega)).grown g2 (by simp;omega)
 ·exact(ho.kept g1 (.inr nX) (fun _ h=>h.elim)).kept g2 (.inr nY) (fun _ h=>h.elim)
theorem Mz{w W:World}{base b:Nat}{s:ByteArray}{x:Rs}{X Y:Nat}{kd:Int}{nm:ByteArray}{va:Value}{at_:List bY}(st:Ct w W base b s x X Y kd nm va at_){N:Nat}(hN:N=at_.length)(qy:N<=8)(v1 v2:ByteArray):
 tm (W.alloc (.cells #[.string v1,.string v2] 156)) base 156 2 32 (fun _=>False) va (at_.map bY.gv) (some ⟨W.heap.size,0,none⟩) 1 [(bY.mk (L v1) (L v2)).gv] [.string v1,.string v2] (N+1):=by
 subst hN;have h2:=st.lX;have h4:=st.hX.lt;have bZ:=st.own.below (cU _ (.cells #[.string v1,.string v2] 156));have hx:=xf (w:=W.alloc (.cells #[.string v1,.string v2] 156)) (F:=fun k=>(fun _=>False) k/\some k≠va.ownBlock) (bY.mk (L v1) (L v2));simp only[qo]at hx;have key:=tm.sE (bytes:=32) (size:=2) bZ (bL.new W 156 #[.string v1,.string v2]) hx rfl (by rw[ah];omega) (by omega) (by rw[size_alloc];omega);rw[ah]at key;exact key
theorem Pj(s:ByteArray)(base b:Nat)(x:Rs)(kd:Int)(nm:ByteArray)(va:Value)(at_:List bY)(w:World)(h:gb w b s x)(ho:b8 w base 156 2 (fun _=>False) va (at_.map bY.gv))(hb:b<base)
 (eo:base<=w.heap.size) (hs:s.size<=10000000) (qy:at_.length<=8):
 Calls prog 79 #[.pointer (some ⟨b,0,none⟩),.agg #[.int .i64 kd,.string nm,va]] w (Vg base b s w x kd nm at_):=by
 have Y9:=bD (Ct.start kd nm h ho hb eo);obtain⟨A,ca,vC⟩:=ho.form;subst vC;rw[ah]at Y9|-;clear h ho eo;obtain⟨N,hN⟩:∃N,N=at_.length:=⟨_,rfl⟩;rw[<-hN]at Y9|- qy;have HN:=bD hN;clear hN;go_enter func79,ntmps79;go_wp2_with fail;generalize(w.alloc (.cells #[.int .i64 kd,.string nm,.slice A N ca] 75)).alloc (.cells #[.int .i64 0,.string ⟨#[]⟩,.slice none 0 0] 75)=W0 at*;generalize w.heap.size=X at*;refine(vu s b x _ Y9.o.rs hs).mono ?_;rintro e w1 VO;obtain⟨⟨v1,rfl,hv1,tQ⟩,h1,mn⟩:=VO;have xU:=bD (Y9.o.step mn h1);have NH:=bD tQ;generalize zG:x.after (L s) eO=x1 at*;have Gq:=bD zG;clear h1 mn tQ zG Y9;go_wp2_with fail;refine(jn s b x1 61 _ xU.o.rs hs).mono ?_;rintro e w2 ⟨rfl,h2,uc⟩;have fZ:=bD (xU.o.step uc h2);generalize tp:x1.after (L s) (cZ [61])=x2 at*;have iL:=bD tp;clear h2 uc tp xU;have t2:=fZ.o.hX.cell 2;go_wp2_with fail;clear t2;go_loopw [7,16] (fun _ i wr=>∃j:Nat,j<=N/\i=.int .i64 j/\Hy (Ct w wr base b s (AT at_ j (L v1) x2) X (X+1) kd nm (.slice A N ca) at_))
  (fun _ i wr=>N-(intOf i).toNat)
 case atStart=>exact⟨0,ax _,rfl,by rw[Hy,Ve];exact fZ.o⟩
 case round=>
  clear fZ;obtain⟨j,hj,rfl,ST⟩:=hrel;by_cases bW:j<N
  ·have tH:j<at_.length:=by rw[<-HN.o];exact bW
   obtain⟨A',c',hv,-,-,dS⟩:=dV (ST.o.own.gr (F:=fun _=>True) (fun _ h=>h.elim) (fun _ _=>trivial));obtain⟨bb,o,WA,_,zu⟩:=dS (by rintro rfl;simp at tH);injection hv with hv1 zF hv3
   subst WA hv1;obtain⟨c0,c1⟩:=zu j tH;have ST':=bD (ST.o.below (cU _ (.cells #[.string (bs at_[j].name),.string (bs at_[j].value)] 156)));have ab9:=bD (XI (v:=L v1) tH x2);have Vi:=bD (Vf (v:=L v1) tH x2);clear dS zu zF hv3;generalize at_[j]=p at*;cases hq:(p.name==L v1)with
   |true=>
    have xo:((bs p.name).toList==v1.toList)=true:=by rw[bQ,cw];exact hq
    have HD:=bD (ab9.o hq);clear ab9 Vi hq;go_wp2_with fail;refine(og s b _ 41 (by decide) _ ST'.o.rs).mono ?_;rintro e w4 ⟨rfl,h4,pc⟩;have nA:=bD (ST'.o.step pc h4);clear h4 pc;go_wp2_with fail;go_roundw
    case rel=>exact⟨j+1,by omega,by go_num,by rw[Hy,HD.o];exact nA.o⟩
    case measure=>simp[intOf];omega
   |false=>
    have xo:((bs p.name).toList==v1.toList)=false:=by rw[bQ,cw];exact hq
    have HD:=bD (Vi.o hq);clear ab9 Vi hq;go_wp2_with fail;go_roundw
    case rel=>exact⟨j+1,by omega,by go_num,by rw[Hy,HD.o];exact ST'.o⟩
    case measure=>simp[intOf];omega
  ·have hjN:j=N:=by omega
   subst hjN;have t2:=ST.o.hX.cell 2;have HDE:=bD (fun y=>XJ (at_:=at_) (v:=L v1) (x:=x2) (y:=y));rw[<-HN.o]at HDE;generalize AT at_ j (L v1) x2=x3 at*;have SN:=bD hs;have J8:Hy (j=at_.length):=HN.o;by_cases h8:j=8
   ·have oN:((j:Int)==8)=true:=by rw[h8];rfl
    have nx:=bD (HDE.o (x3.fail 41) (by rw[ae h8]));clear HDE h8;go_wp2_with fail;refine(og s b x3 41 (by decide) _ ST.o.rs).mono ?_;rintro e w4 ⟨rfl,h4,pc⟩;have nA:=bD (ST.o.step pc h4);clear h4 pc ST t2 oN;generalize x3.fail 41=x4 at*;go_wp2_with fail;refine(jn s b x4 34 _ nA.o.rs SN.o).mono ?_;rintro e w5 ⟨rfl,h5,zS⟩;have fV:=bD (nA.o.step zS h5);clear h5 zS nA;generalize E4:x4.after (L s) (cZ [34])=x5 at*;have sl:=bD E4;clear E4;go_wp2_with fail;refine(zt s b x5 _ fV.o.rs SN.o).mono ?_;rintro e w6 hp6;obtain⟨⟨v2,rfl,zF,Ix⟩,h6,J0⟩:=hp6;have gd:=bD (fV.o.step J0 h6);have yc:=bD Ix;clear h6 J0 Ix fV;generalize Kb:x5.after (L s) (fg gY)=x6 at*;have SZ:=bD Kb;clear Kb;go_wp2_with fail;refine(jn s b x6 34 _ gd.o.rs SN.o).mono ?_;rintro e w7 ⟨rfl,h7,rI⟩;have jI:=bD (gd.o.step rI h7);clear h7 rI gd;generalize YJ:x6.after (L s) (cZ [34])=x7 at*;have PI:=bD YJ;clear YJ;have xT:=bD (BT (s:=L s) (at_:=at_) Gq.o.symm NH.o iL.o.symm rfl (by rw[<-J8.o];exact nx.o) sl.o.symm SZ.o.symm yc.o PI.o.symm (by rw[<-J8.o];exact qy));clear Gq NH iL nx sl SZ yc PI;have t2:=jI.o.hX.cell 2;have HA:=bD (Mz jI.o J8.o qy v1 v2);have si:=bD (jI.o.below (cU _ (.cells #[.string v1,.string v2] 156)));go_wp2_with (at_builtin;go_loud (refine HA.o.plain rfl _ _ _ rfl sw rfl rfl ?_);intro A9 c9 w9 bZ cO fG;go_loud (obtain⟨Fb,FY,MA,hRS,T0,hOW⟩:=My (at2:=at_++[⟨L v1,L v2⟩]) si.o (by rw[aK];exact bZ) cO fG (.int .i64 kd) (.string nm) (.slice A9 (j+1) c9));have M8:=bD (And.intro hRS (And.intro T0 hOW));have d0:=Fb.frozen 2;have d1:=FY.cell 0;have d2:=FY.cell 1;have d3:=FY.cell 2;have q0:=MA.frozen 0;have q1:=MA.frozen 1;have q2:=MA.frozen 2;have HYF:=bD (((MA.cL 0 (.int .i64 kd)).cL 1 (.string nm)).cL 2 (.slice A9 (j+1) c9));have d4:=Fb.cell 2;have q3:=MA.cell 0;have q4:=MA.cell 1;have q5:=MA.cell 2;clear bZ cO fG Fb FY MA hRS T0 hOW);obtain⟨y0,y1,y2⟩:=nw HYF.o;refine ag (v:=.agg #[.int .i64 kd,.string nm,.slice A9 (j+1) c9]) ?_ rfl ⟨⟨_,at_++[bY.mk (L v1) (L v2)],rfl,M8.o.2.2,by rw[af];rfl,fun k Vh r k' hx h=>xT.o.2 k Vh r k' hx h⟩,?_,M8.o.2.1⟩
    ·simp[results,results79,go_sem,y0,y1,y2]
    ·rw[<-xT.o.1];exact M8.o.1
   ·have oN:((j:Int)==8)=false:=by rw[ai];omega
    have nx:=bD (HDE.o x3 (by rw[aa h8]));clear HDE h8;go_wp2_with fail;refine(jn s b x3 34 _ ST.o.rs SN.o).mono ?_;rintro e w5 ⟨rfl,h5,zS⟩;have fV:=bD (ST.o.step zS h5);clear h5 zS ST t2 oN;generalize E4:x3.after (L s) (cZ [34])=x5 at*;have sl:=bD E4;clear E4;go_wp2_with fail;refine(zt s b x5 _ fV.o.rs SN.o).mono ?_;rintro e w6 hp6;obtain⟨⟨v2,rfl,zF,Ix⟩,h6,J0⟩:=hp6;have gd:=bD (fV.o.step J0 h6);have yc:=bD Ix;clear h6 J0 Ix fV;generalize Kb:x5.after (L s) (fg gY)=x6 at*;have SZ:=bD Kb;clear Kb;go_wp2_with fail;refine(jn s b x6 34 _ gd.o.rs SN.o).mono ?_;rintro e w7 ⟨rfl,h7,rI⟩;have jI:=bD (gd.o.step rI h7);clear h7 rI gd;generalize YJ:x6.after (L s) (cZ [34])=x7 at*;have PI:=bD YJ;clear YJ;have xT:=bD (BT (s:=L s) (at_:=at_) Gq.o.symm NH.o iL.o.symm rfl (by rw[<-J8.o];exact nx.o) sl.o.symm SZ.o.symm yc.o PI.o.symm (by rw[<-J8.o];exact qy));clear Gq NH iL nx sl SZ yc PI;have t2:=jI.o.hX.cell 2;have HA:=bD (Mz jI.o J8.o qy v1 v2);have si:=bD (jI.o.below (cU _ (.cells #[.string v1,.string v2] 156)));go_wp2_with (at_builtin;go_loud (refine HA.o.plain rfl _ _ _ rfl sw rfl rfl ?_);intro A9 c9 w9 bZ cO fG;go_loud (obtain⟨Fb,FY,MA,hRS,T0,hOW⟩:=My (at2:=at_++[⟨L v1,L v2⟩]) si.o (by rw[aK];exact bZ) cO fG (.int .i64 kd) (.string nm) (.slice A9 (j+1) c9));have M8:=bD (And.intro hRS (And.intro T0 hOW));have d0:=Fb.frozen 2;have d1:=FY.cell 0;have d2:=FY.cell 1;have d3:=FY.cell 2;have q0:=MA.frozen 0;have q1:=MA.frozen 1;have q2:=MA.frozen 2;have HYF:=bD (((MA.cL 0 (.int .i64 kd)).cL 1 (.string nm)).cL 2 (.slice A9 (j+1) c9));have d4:=Fb.cell 2;have q3:=MA.cell 0;have q4:=MA.cell 1;have q5:=MA.cell 2;clear bZ cO fG Fb FY MA hRS T0 hOW);obtain⟨y0,y1,y2⟩:=nw HYF.o;refine ag (v:=.agg #[.int .i64 kd,.string nm,.slice A9 (j+1) c9]) ?_ rfl ⟨⟨_,at_++[bY.mk (L v1) (L v2)],rfl,M8.o.2.2,by rw[af];rfl,fun k Vh r k' hx h=>xT.o.2 k Vh r k' hx h⟩,?_,M8.o.2.1⟩
    ·simp[results,results79,go_sem,y0,y1,y2]
    ·rw[<-xT.o.1];exact M8.o.1
theorem ko{α:Type}{s:Bt}{x:Rs}{f:Bt->Nat->eN α}(hk:∀k,tA s (f (s.drop k) k)){k1:Nat}(h:x.after s f=.go k1):∃k a,x=.go k/\f (s.drop k) k=.ok a (s.drop k1) k1:=by
 cases x with
 |go k=>
  rw[Rs.after]at h;cases ho:f (s.drop k) k with
  |ok a r k2=>
   rw[ho]at h;injection h with h
   subst h;obtain rfl:=hk k _ _ _ ho;exact⟨k,a,rfl,ho⟩
  |short=>rw[ho]at h;cases h
  |bad e=>rw[ho]at h;cases h
 |short=>cases h
 |bad e=>cases h
theorem we{α β:Type}{s:Bt}{k:Nat}{f:Bt->Nat->eN α}{g:α->Bt->Nat->eN β}(h:((Rs.go k).after s f).live=false):Rs.of ((f (s.drop k) k).bind g)=(Rs.go k).after s f:=by
 rw[Rs.after]at h|-;cases ho:f (s.drop k) k with
 |ok a r k2=>rw[ho]at h;cases h
 |short=>rfl
 |bad e=>rfl
theorem JR{s:Bt}{x1 x2 x3:Rs}{v1:Bt}(h1:x1=(Rs.go 6).after s eO)(n1:∀k l r k',Rs.go 6=.go k->eO (s.drop k) k=.ok l r k'->v1=l)(h2:x2=x1.after s (fg cV))(h3:x3=x2.after s (cZ [62])):
 x3=Rs.of (jm true s)/\∀t r k,jm true s=.ok t r k->t=⟨2,v1,[]⟩:=by
 unfold jm;rw[ae rfl];cases hl:x1.live with
 |false=>
  have h2':x2=x1:=by rw[h2,jr hl]
  have h3':x3=x1:=by rw[h3,h2',jr hl]
  have e:=we (g:=fun nm r k=>(fg cV r k).bind fun _ r k=>(cZ [62] r k).bind fun _ r k=>.ok (⟨2,nm,[]⟩:bG) r k) (by rw[<-h1];exact hl);refine⟨by rw[h3',h1];exact e.symm,fun t r k h=>?_⟩;rw[h,<-h1]at e;rw[<-e]at hl;cases hl
 |true=>
  obtain⟨k1,rfl⟩:=ou hl;obtain⟨k,l,hk,ho⟩:=ko (qL s) h1.symm;injection hk with hk
  subst hk;obtain rfl:=n1 6 l _ _ rfl ho;rw[ho];simp only[eN.bind];cases Cw:x2.live with
  |false=>
   have h3':x3=x2:=by rw[h3,jr Cw]
   have e:=we (s:=s) (k:=k1) (f:=fg cV) (g:=fun _ r k=>(cZ [62] r k).bind fun _ r k=>.ok (⟨2,v1,[]⟩:bG) r k) (by rw[<-h2];exact Cw);refine⟨by rw[h3',h2];exact e.symm,fun t r k h=>?_⟩;have h:eN.bind (fg cV (s.drop k1) k1) (fun _ r k=>(cZ [62] r k).bind fun _ r k=>.ok (⟨2,v1,[]⟩:bG) r k)=.ok t r k:=h;rw[h,<-h2]at e;rw[<-e]at Cw;cases Cw
  |true=>
   obtain⟨k2,rfl⟩:=ou Cw;obtain⟨k,l,hk,EY⟩:=ko (fun k=>oe cV s _ k rfl) h2.symm;injection hk with hk
   subst hk;rw[EY];simp only;rw[Rs.after]at h3;cases ho3:cZ [62] (s.drop k2) k2 with
   |ok u r k3=>rw[ho3]at h3;exact⟨h3,fun t r k h=>by injection h with h _ _;exact h.symm⟩
   |short=>rw[ho3]at h3;exact⟨h3,fun t r k h=>by cases h⟩
   |bad e=>rw[ho3]at h3;exact⟨h3,fun t r k h=>by cases h⟩
theorem Pk{s:Bt}{x1:Rs}{v1:Bt}(h1:x1=(Rs.go 5).after s eO)(n1:∀k l r k',Rs.go 5=.go k->eO (s.drop k) k=.ok l r k'->v1=l):
 (x1.live=false->Rs.of (jm false s)=x1)/\∀k1,x1=.go k1->jm false s=dz ((s.drop k1).length+1) v1 [] (s.drop k1) k1:=by
 unfold jm;rw[aa (by simp)];refine⟨fun hl=>?_,fun k1 hk=>?_⟩
 ·rw[we (by rw[<-h1];exact hl),h1]
 ·obtain⟨k,l,fA,ho⟩:=ko (qL s) (h1.symm.trans hk);injection fA with fA
  subst fA;obtain rfl:=n1 5 l _ _ rfl ho;rw[ho];rfl
theorem So{s:Bt}{n:Nat}{nm:Bt}{at_:List bY}{k:Nat}{x1 x2:Rs}{F:eN bG}(hF:F=dz (n+1) nm at_ (s.drop k) k)(h1:x1=(Rs.go k).after s (fg cV))(h2:x2=x1.after s dy):
 (x2.live=false->Rs.of F=x2)/\∀k1,x2=.go k1->x1=.go k1/\∃wF,fg cV (s.drop k) k=.ok wF (s.drop k1) k1/\F=gO (fun at_ r k=>dz n nm at_ r k) nm at_ wF (jQ s x1) (s.drop k1) k1:=by
 subst hF;rw[dz];cases hl:x1.live with
 |false=>
  have h2':x2=x1:=by rw[h2,jr hl]
  refine⟨fun _=>?_,fun k1 hk=>?_⟩
  ·rw[we (by rw[<-h1];exact hl),h2',h1]
  ·rw[h2']at hk;rw[hk]at hl;cases hl
 |true=>
  obtain⟨k2,rfl⟩:=ou hl;obtain⟨k',wF,hk,ho⟩:=ko (fun k=>oe cV s _ k rfl) h1.symm;injection hk with hk
  subst hk;rw[ho];simp only[eN.bind];refine⟨fun Cw=>?_,fun k1 hk=>?_⟩
  ·have e:=we (s:=s) (k:=k2) (f:=dy) (g:=fun c r k=>gO (fun at_ r k=>dz n nm at_ r k) nm at_ wF c r k) (by rw[<-h2];exact Cw);rw[h2];exact e
  ·obtain⟨k',c,fA,EY⟩:=ko (Mq s) (h2.symm.trans hk);injection fA with fA
   subst fA;obtain⟨-,rfl,-,-⟩:=kh EY;refine⟨rfl,wF,rfl,?_⟩;rw[jQ,EY]
theorem Sp{at_ at2:List bY}{r r':Bt}{k k':Nat}(h:qi at_ r k=.ok at2 r' k'):k<k'/\at2.length<=8:=by
 unfold qi at h;obtain⟨a,r1,k1,h1,h2⟩:=eN.cG h;have p1:=Gn h1;obtain⟨_,r3,k3,h3,h4⟩:=eN.cG h2;have p3:=nP h3;split at h4
 ·cases h4
 ·rename_i hd;obtain⟨_,r5,k5,h5,h6⟩:=eN.cG h4;have p5:=nP h5;obtain⟨v,r7,k7,h7,h8⟩:=eN.cG h6;have p7:=pM h7;obtain⟨_,r9,k9,h9,KJ⟩:=eN.cG h8;have p9:=nP h9;injection KJ with e1 e2 e3
  subst e1 e3;simp only[bA,aH,not_or]at hd;rw[af,aR];omega
theorem Sq{s:Bt}{n:Nat}{nm:Bt}{at_ at2:List bY}{k:Nat}{wF:Bt}{c:UInt8}{x5:Rs}{F:eN bG}(hF:F=gO (fun at_ r k=>dz n nm at_ r k) nm at_ wF c (s.drop k) k)(h62:¬c=62)(PM:¬c=47)(hg:¬wF=[])
 (h5:x5=(Rs.go k).after s (qi at_)) (n5:∀j Vh r k',Rs.go k=.go j->qi at_ (s.drop j) j=.ok Vh r k'->Vh=at2):
 (x5.live=false->Rs.of F=x5)/\∀k5,x5=.go k5->k<k5/\at2.length<=8/\F=dz n nm at2 (s.drop k5) k5:=by
 subst hF;rw[gO,aa h62,aa PM,aa hg,Si];refine⟨fun hl=>?_,fun k5 hk=>?_⟩
 ·rw[we (by rw[<-h5];exact hl),h5]
 ·obtain⟨k',Vh,fA,ho⟩:=ko (Mr s at_) (h5.symm.trans hk);injection fA with fA
  subst fA;obtain rfl:=n5 k Vh _ _ rfl ho;obtain⟨p1,p2⟩:=Sp ho;rw[ho];exact⟨p1,p2,rfl⟩
structure vw(w W:World)(b:Nat)(s:ByteArray)(x:Rs)(Y T:Nat)(kd:Int)(nm:ByteArray)(va:Value)(at_:List bY):Prop where
 rs:gb W b s x
 gr:w.grownBy W (some b)
 hY:bL W Y 75 #[.int .i64 0,.string ⟨#[]⟩,.slice none 0 0]
 hT:bL W T 75 #[.int .i64 kd,.string nm,va]
 own:b8 W (T+1) 156 2 (fun _=>False) va (at_.map bY.gv)
 lb:b<w.heap.size
 lY:w.heap.size<=Y
 lT:Y<T
section
variable {w W W':World} {b:Nat} {s:ByteArray} {x x':Rs} {Y T:Nat} {kd:Int} {nm:ByteArray} {va:Value} {at_:List bY}
theorem vw.step(h:vw w W b s x Y T kd nm va at_)(hg:W.grownBy W' (some b))(hr:gb W' b s x'):vw w W' b s x' Y T kd nm va at_:=by
 have h1:=h.lb;have h2:=h.lY;have h3:=h.lT;exact⟨hr,bU h.gr hg,h.hY.grown hg (by simp;omega),h.hT.grown hg (by simp;omega),h.own.kept hg (.inr (h.own.ne (by omega))) (fun _ h=>h.elim),h1,h2,h3⟩
theorem vw.kind(h:vw w W b s x Y T kd nm va at_)(kd':Int):vw w (W.setCell ⟨T,0,none⟩ (.int .i64 kd')) b s x Y T kd' nm va at_:=by
 have h1:=h.lb;have h2:=h.lY;have h3:=h.lT;have hg:W.grownBy (W.setCell ⟨T,0,none⟩ (.int .i64 kd')) (some T):=bF (bR _ _) (.inl rfl) _;exact⟨h.rs.grown hg (by simp;omega),bF h.gr (.inr (by show w.heap.size<=T;omega)) _,h.hY.grown hg (by simp;omega),h.hT.cL 0 _,h.own.kept hg (.inr (h.own.ne (by omega))) (fun _ h=>h.elim),h1,h2,h3⟩
theorem vw.tok(h:vw w W b s x Y T kd nm va at_)(hb:Ph (T+1) b W W')(hr:gb W' b s x'){va':Value}{at2:List bY}(ho:b8 W' (T+1) 156 2 (fun _=>False) va' (at2.map bY.gv)):
 vw w (j5 W' T (.int .i64 kd) (.string nm) va') b s x' Y T kd nm va' at2/\bL W' T 75 #[.int .i64 kd,.string nm,va]:=by
 have h1:=h.lb;have h2:=h.lY;have h3:=h.lT;have hg:W'.grownBy (j5 W' T (.int .i64 kd) (.string nm) va') (some T):=kL (bR _ _) (.inl rfl) _ _ _;have hT':bL W' T 75 #[.int .i64 kd,.string nm,va]:=(hb.block T (by omega) (by omega)).trans h.hT;have hY':bL W' Y 75 #[.int .i64 0,.string ⟨#[]⟩,.slice none 0 0]:=(hb.block Y (by omega) (by omega)).trans h.hY;have bW:=h.hT.lt;have hgw:W.grownBy W' (some b)\/True:=.inr trivial;refine⟨⟨hr.grown hg (by simp;omega),?_,hY'.grown hg (by simp;omega),?_,ho.kept hg (.inr (ho.ne (by omega))) (fun _ h=>h.elim),h1,h2,h3⟩,hT'⟩
 ·have g0:w.grownBy W' (some b):=⟨hb.os.trans h.gr.os,hb.tape.trans h.gr.tape,hb.output.trans h.gr.output,au h.gr.size hb.size,fun i hi db=>
   (hb.block i (by omega) (fun e=>db (by rw[e]))).trans (h.gr.block i hi db)⟩
  exact kL g0 (.inr (by omega)) _ _ _
 ·exact((hT'.cL 0 _).cL 1 _).cL 2 _
theorem vw.ret(h:vw w W b s x Y T kd nm va at_):w.grownBy (j5 W Y (.int .i64 kd) (.string nm) va) (some b)/\gb (j5 W Y (.int .i64 kd) (.string nm) va) b s x/\
 GR (j5 W Y (.int .i64 kd) (.string nm) va) (fun g=>w.heap.size<=g) (.row 2 (at_.map bY.gv)) [va]/\bL (j5 W Y (.int .i64 kd) (.string nm) va) Y 75 #[.int .i64 kd,.string nm,va]:=by
 have h1:=h.lb;have h2:=h.lY;have h3:=h.lT;have hg:W.grownBy (j5 W Y (.int .i64 kd) (.string nm) va) (some Y):=kL (bR _ _) (.inl rfl) _ _ _;have ho:=h.own.kept hg (.inr (h.own.ne (by omega))) (fun _ h=>h.elim);refine⟨kL h.gr (.inr (by omega)) _ _ _,h.rs.grown hg (by simp;omega),ho.gr (fun _ h=>h.elim) (fun k hk=>?_),((h.hY.cL 0 _).cL 1 _).cL 2 _⟩;have:=(ho.lt k hk).1;omega
end
def EJ(b:Nat)(s:ByteArray)(w:World)(F:eN bG)(e:Ending)(w':World):Prop:=
 w.grownBy w' (some b)/\gb w' b s (Rs.of F)/\∃kd nm A n c,e=.returned (.agg #[.int .i64 kd,.string nm,.slice A n c])/\
  ∀t r k,F=.ok t r k->kd=t.kind/\L nm=t.text/\GR w' (fun g=>w.heap.size<=g) (.row 2 (t.bK.map bY.gv)) [.slice A n c]
def EK(b n:Nat)(wr:World):Nat:=
 match wr.cell? ⟨b,2,none⟩,wr.cell? ⟨b,3,none⟩,wr.cell? ⟨b,1,none⟩with
 |some (.int _ z),some (.bool sh),some (.int _ a)=>if z=0/\sh=false then n+1-a.toNat else 0
 |_,_,_=>0
theorem MB{w:World}{b:Nat}{s:ByteArray}{k n:Nat}(h:gb w b s (.go k)):EK b n w=n+1-k:=by
 obtain⟨a,z,sh,hb,hi⟩:=h;obtain⟨hk,rfl,rfl,rfl⟩:=hi;obtain⟨⟨c0,c1,c2,c3⟩,f1,f2,f3⟩:=sd hb;rw[EK,c1,c2,c3];simp
theorem tg{w:World}{b:Nat}{s:ByteArray}{x:Rs}{n:Nat}(h:gb w b s x)(hx:x.live=false):EK b n w=0:=by
 obtain⟨a,z,sh,hb,hi⟩:=h;obtain⟨⟨c0,c1,c2,c3⟩,f1,f2,f3⟩:=sd hb;rw[EK,c1,c2,c3];cases x with
 |go k=>cases hx
 |short=>
  obtain⟨rfl,rfl⟩:=hi;simp
 |bad e=>
  obtain⟨rfl,hz,rfl⟩:=hi;simp[hz]
theorem vw.start{w w1 w2:World}{b:Nat}{s:ByteArray}{x:Rs}(kd:Int)(v1:ByteArray)(dG:b<w.heap.size)(g1:w.grownBy w1 (some b))(hY:bL w1 w.heap.size 75 #[.int .i64 0,.string ⟨#[]⟩,.slice none 0 0])(hg:w1.grownBy w2 (some b))(hr:gb w2 b s x):
 vw w (w2.alloc (.cells #[.int .i64 kd,.string v1,.slice none 0 0] 75)) b s x w.heap.size w2.heap.size kd v1 (.slice none 0 0) []:=by
 have h1:=hY.lt;have h2:=hg.size;exact⟨hr.below (cU _ _),fX (bU g1 hg) _,(hY.grown hg (by simp;omega)).alloc _,bL.new _ _ _,b8.nil _ _ _ _ _,dG,dv _,by omega⟩
theorem gb.size{w:World}{b:Nat}{s:ByteArray}{k:Nat}(h:gb w b s (.go k)):k<=s.size:=by
 obtain⟨_,_,_,_,hi⟩:=h;exact hi.1
theorem Qq{s:Bt}{k:Nat}{c:UInt8}(h:(Rs.go k).after s dy=.go k)(hc:jQ s (.go k)=c):(Rs.go k).after s (cZ [c])=.go (k+1):=by
 rw[EH,h];simp only[hc,if_true]
theorem an6{α β:Type}(o:eN α)(a:β):Rs.of (o.bind fun _ r k=>.ok a r k)=Rs.of o:=by cases o<;>rfl
theorem XK{α:Type}{F:eN α}{t:α}{r:Bt}{k:Nat}{x:Rs}(hF:Rs.of F=x)(hl:x.live=false)(h:F=.ok t r k):False:=by
 rw[h]at hF;rw[<-hF]at hl;cases hl
theorem Pm(s:ByteArray)(b:Nat)(w:World)(h:gb w b s (.go 0))(hs:s.size<=10000000)(h6:6<=s.size):
 Calls prog 41 #[.pointer (some ⟨b,0,none⟩),.bool true] w (EJ b s w (jm true (L s))):=by
 have bW:=h.lt;obtain⟨a,z,sh,hb,hi⟩:=h;obtain⟨-,rfl,rfl,rfl⟩:=hi;have XD:=wX hb 5;have hbB:=wX XD 6;have hbC:=hbB.alloc (.cells #[.int .i64 0,.string ⟨#[]⟩,.slice none 0 0] 75);have Is:Hy (gb _ b s (.go 6)):=⟨_,_,_,hbC,h6,rfl,rfl,rfl⟩;have hY0:=bL.new ((w.setCell ⟨b,1,none⟩ (.int .i64 5)).setCell ⟨b,1,none⟩ (.int .i64 6)) 75 #[.int .i64 0,.string ⟨#[]⟩,.slice none 0 0];rw[show((w.setCell ⟨b,1,none⟩ (.int .i64 5)).setCell ⟨b,1,none⟩ (.int .i64 6)).heap.size=w.heap.size by simp[World.setCell]]at hY0;have Qp:=bD hY0;have J3:=bD (fX (bF (bF (bR w (some b)) (p:=⟨b,1,none⟩) (.inl rfl) (.int .i64 5)) (p:=⟨b,1,none⟩) (.inl rfl) (.int .i64 6)) (.cells #[.int .i64 0,.string ⟨#[]⟩,.slice none 0 0] 75));obtain⟨⟨c0,c1,c2,c3⟩,f1,f2,f3⟩:=sd hb;obtain⟨⟨d0,d1,d2,d3⟩,e1,e2,e3⟩:=sd XD;clear hb XD hbB hbC hY0;go_enter func41,ntmps41;go_wp2_with fail;refine(vu s b _ _ Is.o hs).mono ?_;rintro e w1 VO;obtain⟨⟨v1,rfl,hv1,tQ⟩,h1,mn⟩:=VO;have xU:=bD (vw.start 1 v1 bW J3.o Qp.o mn h1);have fZ:=bD (vw.start 2 v1 bW J3.o Qp.o mn h1);have NH:=bD tQ;generalize zG:(Rs.go 6).after (L s) eO=x1 at*;have Gq:=bD zG;clear h1 mn tQ zG J3 Qp Is c0 c1 c2 c3 f1 f2 f3 d0 d1 d2 d3 e1 e2 e3;obtain⟨t0,t1,t2⟩:=nw xU.o.hT;have t3:=xU.o.hT.frozen 0;go_wp2_with fail;refine(wY s b x1 _ fZ.o.rs hs).mono ?_;rintro e w2 Io;obtain⟨⟨n2,rfl,-,-⟩,h2,uc⟩:=Io;have AU:=bD (fZ.o.step uc h2);generalize tp:x1.after (L s) (fg cV)=x2 at*;have iL:=bD tp;clear h2 uc tp xU fZ t0 t1 t2 t3;go_wp2_with fail;refine(jn s b x2 62 _ AU.o.rs hs).mono ?_;rintro e w3 ⟨rfl,h3,pa⟩;have nA:=bD (AU.o.step pa h3);generalize xZ:x2.after (L s) (cZ [62])=x3 at*;have ry:=bD xZ;clear h3 pa xZ AU;have xT:=bD (JR Gq.o.symm NH.o iL.o.symm ry.o.symm);clear Gq NH iL ry;obtain⟨t0,t1,t2⟩:=nw nA.o.hT;obtain⟨q0,q1,q2⟩:=nw nA.o.hY;obtain⟨z0,z1,z2⟩:=VE nA.o.hY;go_wp2_with fail;obtain⟨g1,g2,g3,g4⟩:=nA.o.ret;refine ag (v:=.agg #[.int .i64 2,.string v1,.slice none 0 0]) (by simp[results,results41,go_sem,q0,q1,q2]) rfl ⟨g1,by rw[<-xT.o.1];exact g2,_,_,_,_,_,rfl,fun t r k h=>?_⟩;obtain rfl:=xT.o.2 t r k h;exact⟨rfl,rfl,g3⟩
theorem Sr(s:ByteArray)(b:Nat)(w:World)(h:gb w b s (.go 0))(hs:s.size<=10000000)(h5:5<=s.size):
 Calls prog 41 #[.pointer (some ⟨b,0,none⟩),.bool false] w (EJ b s w (jm false (L s))):=by
 have bW:=h.lt;obtain⟨a,z,sh,hb,hi⟩:=h;obtain⟨-,rfl,rfl,rfl⟩:=hi;have XD:=wX hb 5;have hbC:=XD.alloc (.cells #[.int .i64 0,.string ⟨#[]⟩,.slice none 0 0] 75);have Is:Hy (gb _ b s (.go 5)):=⟨_,_,_,hbC,h5,rfl,rfl,rfl⟩;have hY0:=bL.new (w.setCell ⟨b,1,none⟩ (.int .i64 5)) 75 #[.int .i64 0,.string ⟨#[]⟩,.slice none 0 0];rw[show(w.setCell ⟨b,1,none⟩ (.int .i64 5)).heap.size=w.heap.size by simp[World.setCell]]at hY0;have Qp:=bD hY0;have J3:=bD (fX (bF (bR w (some b)) (p:=⟨b,1,none⟩) (.inl rfl) (.int .i64 5)) (.cells #[.int .i64 0,.string ⟨#[]⟩,.slice none 0 0] 75));obtain⟨⟨c0,c1,c2,c3⟩,f1,f2,f3⟩:=sd hb;clear hb XD hbC hY0;generalize hF:jm false (L s)=F;have HFD:=bD hF;clear hF;go_enter func41,ntmps41;go_wp2_with fail;refine(vu s b _ _ Is.o hs).mono ?_;rintro e w1 VO;obtain⟨⟨v1,rfl,hv1,tQ⟩,h1,mn⟩:=VO;have xU:=bD (vw.start 1 v1 bW J3.o Qp.o mn h1);have HOS:=bD (Pk (s:=L s) rfl tQ);rw[HFD.o]at HOS;generalize(Rs.go 5).after (L s) eO=x1 at*;have xy:Hy (∀k1,x1=.go k1->k1<=s.size):=fun k1 hk=>by subst hk;exact h1.size
 clear h1 mn tQ J3 Qp Is c0 c1 c2 c3 f1 f2 f3 HFD;go_wp2_with fail;generalize hYY:w.heap.size=Y at*;generalize hTT:w1.heap.size=T at*;go_loopw [] (fun wr=>∃(x:Rs) (va:Value) (at_:List bY),Hy (vw w wr b s x Y T 1 v1 va at_)/\
  ((x.live=false/\Hy (Rs.of F=x))\/∃n k,x=.go k/\Hy (F=dz n (L v1) at_ ((L s).drop k) k)/\s.size+1<=n+k/\k<=s.size/\at_.length<=8))
  (fun wr=>EK b s.size wr)
 case atStart=>
  refine⟨x1,_,[],xU.o,?_⟩;cases hl:x1.live with
  |false=>exact .inl ⟨rfl,HOS.o.1 hl⟩
  |true=>
   obtain⟨k1,rfl⟩:=ou hl;have hk:=xy.o k1 rfl;exact .inr ⟨_,k1,rfl,HOS.o.2 k1 rfl,by rw[aj,<-cm];omega,hk,by simp⟩
 case round=>
  clear xU HOS xy hYY hTT;obtain⟨x,va,at_,ST,hx⟩:=hrel;obtain⟨A,ca,vC⟩:=ST.o.own.form;subst vC;rw[ah]at ST;obtain⟨N,hN⟩:∃N,N=at_.length:=⟨_,rfl⟩;rw[<-hN]at ST hx;have HN:=bD hN;clear hN;rcases hx with⟨hl,HF⟩|⟨n,k,rfl,HF,hn,hk,qy⟩
  ·go_wp2_with fail;refine(dw s b x wr ST.o.rs).mono ?_;rintro e w3 ⟨rfl,rfl⟩;obtain⟨t0,t1,t2⟩:=nw ST.o.hT;obtain⟨q0,q1,q2⟩:=nw ST.o.hY;obtain⟨z0,z1,z2⟩:=VE ST.o.hY;go_wp2_with fail;obtain⟨g1,g2,g3,g4⟩:=ST.o.ret;refine ag (v:=.agg #[.int .i64 1,.string v1,.slice A N ca]) (by simp[results,results41,go_sem,q0,q1,q2]) rfl ⟨g1,by rw[HF.o];exact g2,_,_,_,_,_,rfl,fun t r k h=>?_⟩;exact(XK HF.o hl h).elim
  ·have HM:Hy (EK b s.size wr=s.size+1-k):=MB ST.o.rs;have Ij:=bD (And.intro hn hk);obtain⟨n,rfl⟩:∃n',n=n'+1:=⟨n-1,by omega⟩;have pf:(Rs.go k).live=true:=rfl;clear hn hk;go_wp2_with fail;refine(dw s b _ wr ST.o.rs).mono ?_;rintro e w3 ⟨rfl,rfl⟩;go_wp2_with fail;refine(wY s b _ wr ST.o.rs hs).mono ?_;rintro e w4 hp4;obtain⟨⟨m,rfl,hm,Y6⟩,h4,pc⟩:=hp4;have nA:=bD (ST.o.step pc h4);clear h4 pc ST pf;go_wp2_with fail;refine(jq s b _ w4 nA.o.rs hs).mono ?_;rintro e w5 ⟨rfl,h5',zS⟩;have fV:=bD (nA.o.step zS h5');have HRP:=bD (So HF.o rfl rfl);have HNM:=bD Y6;generalize(Rs.go k).after (L s) (fg cV)=x4 at*;generalize P2:x4.after (L s) dy=x5 at*;have sl:=bD P2;clear h5' zS nA Y6 P2;generalize hC:jQ (L s) x4=c at*;have HC:=bD hC;clear hC;cases hl5:x5.live with
   |false=>
    have HOF:=bD (HRP.o.1 hl5);have HL5:=bD hl5;have HFA:Hy (x5.fail 40=x5):=H7 hl5 40;clear HRP HNM;go_wp2_with fail;refine(dw s b x5 w5 fV.o.rs).mono ?_;rintro e w6 ⟨rfl,rfl⟩;go_wp2_with fail;refine(dw s b x5 w5 fV.o.rs).mono ?_;rintro e w6 ⟨rfl,rfl⟩;by_cases tI:m=0
    ·have CB:((m:Int)==0)=true:=by rw[tI];rfl
     clear tI;go_wp2_with fail;refine(og s b x5 40 (by decide) w5 fV.o.rs).mono ?_;rintro e w7 ⟨rfl,h7,rI⟩;rw[HFA.o]at h7;have jI:=bD (fV.o.step rI h7);clear h7 rI fV CB;go_wp2_with fail;refine(dw s b x5 w7 jI.o.rs).mono ?_;rintro e w8 ⟨rfl,rfl⟩;go_wp2_with fail;go_roundw
     case rel=>exact⟨x5,_,at_,jI.o,.inl ⟨HL5.o,HOF.o⟩⟩
     case measure=>rw[HM.o,tg jI.o.rs HL5.o];have:=Ij.o;omega
    ·have CB:((m:Int)==0)=false:=by rw[ai];omega
     clear tI;go_wp2_with fail;refine(dw s b x5 w5 fV.o.rs).mono ?_;rintro e w8 ⟨rfl,rfl⟩;go_wp2_with fail;go_roundw
     case rel=>exact⟨x5,_,at_,fV.o,.inl ⟨HL5.o,HOF.o⟩⟩
     case measure=>rw[HM.o,tg fV.o.rs HL5.o];have:=Ij.o;omega
   |true=>
    obtain⟨k1,rfl⟩:=ou hl5;obtain⟨h41,wF,Km,hFt⟩:=HRP.o.2 k1 rfl;have TZ:=bD hFt;have hmg:m=wF.length:=HNM.o k wF _ k1 rfl Km;have Am:Hy (k<=k1):=by have:=pM Km;rw[Hy];omega
    have an7:Hy ((Rs.go k1).after (L s) dy=.go k1):=by have h:=sl.o;rw[h41]at h;exact h
    have HC':Hy (jQ (L s) (.go k1)=c):=by have h:=HC.o;rw[h41]at h;exact h
    have HMG:=bD hmg;clear HRP HNM Km hFt h41 sl HC hmg hl5;have pf:(Rs.go k1).live=true:=rfl;by_cases hc:c=62
    ·have T2:((c.toNat:Int)==62)=true:=by rw[hc];rfl
     have HND:Hy ((Rs.go k1).after (L s) (cZ [62])=.go (k1+1)):=Qq an7.o (by rw[HC'.o];exact hc);have qq:Hy (F=.ok ⟨1,L v1,at_⟩ ((L s).drop (k1+1)) (k1+1)):=by rw[Hy,TZ.o,gO,ae hc,List.tail_drop]
     clear TZ hc;go_wp2_with fail;refine(dw s b _ w5 fV.o.rs).mono ?_;rintro e w6 ⟨rfl,rfl⟩;go_wp2_with fail;refine(jn s b _ 62 w5 fV.o.rs hs).mono ?_;rintro e w7 ⟨rfl,h7,rI⟩;rw[HND.o]at h7;have jI:=bD (fV.o.step rI h7);clear h7 rI fV T2 pf;obtain⟨t0,t1,t2⟩:=nw jI.o.hT;obtain⟨q0,q1,q2⟩:=nw jI.o.hY;obtain⟨z0,z1,z2⟩:=VE jI.o.hY;go_wp2_with fail;obtain⟨g1,g2,g3,g4⟩:=jI.o.ret;refine ag (v:=.agg #[.int .i64 1,.string v1,.slice A N ca]) (by simp[results,results41,go_sem,q0,q1,q2]) rfl ⟨g1,by rw[qq.o];exact g2,_,_,_,_,_,rfl,fun t r k h=>?_⟩;rw[qq.o]at h;injection h with h _ _
     subst h;exact⟨rfl,rfl,g3⟩
    ·have T2:((c.toNat:Int)==62)=false:=by rw[ai];exact fun e=>hc ((mQ c 62).2 e)
     have ac0:=bD hc;clear hc;go_wp2_with fail;refine(dw s b _ w5 fV.o.rs).mono ?_;rintro e w6 ⟨rfl,rfl⟩;go_wp2_with fail;refine(dw s b _ w5 fV.o.rs).mono ?_;rintro e w6 ⟨rfl,rfl⟩;by_cases hc:c=47
     ·have XL:((c.toNat:Int)==47)=true:=by rw[hc];rfl
      have HND:Hy ((Rs.go k1).after (L s) (cZ [47])=.go (k1+1)):=Qq an7.o (by rw[HC'.o];exact hc);have qq:Hy (F=(cZ [62] ((L s).drop (k1+1)) (k1+1)).bind fun _ r k=>.ok ⟨3,L v1,at_⟩ r k):=by rw[Hy,TZ.o,gO,aa ac0.o,ae hc,List.tail_drop]
      clear TZ hc;have gd:=bD (fV.o.kind 3);have p0:=fV.o.hT.cell 0;have p1:=fV.o.hT.frozen 0;go_wp2_with fail;refine(jn s b _ 47 _ gd.o.rs hs).mono ?_;rintro e w7 ⟨rfl,h7,rI⟩;rw[HND.o]at h7;have jI:=bD (gd.o.step rI h7);clear h7 rI fV gd T2 XL pf p0 p1;go_wp2_with fail;refine(jn s b _ 62 _ jI.o.rs hs).mono ?_;rintro e w8 ⟨rfl,h8,Tc⟩;have kD:=bD (jI.o.step Tc h8);clear h8 Tc jI;obtain⟨t0,t1,t2⟩:=nw kD.o.hT;obtain⟨q0,q1,q2⟩:=nw kD.o.hY;obtain⟨z0,z1,z2⟩:=VE kD.o.hY;go_wp2_with fail;obtain⟨g1,g2,g3,g4⟩:=kD.o.ret;refine ag (v:=.agg #[.int .i64 3,.string v1,.slice A N ca]) (by simp[results,results41,go_sem,q0,q1,q2]) rfl ⟨g1,by rw[qq.o,an6];exact g2,_,_,_,_,_,rfl,fun t r k h=>?_⟩;rw[qq.o]at h;obtain⟨_,_,_,_,h⟩:=eN.cG h;injection h with h _ _
      subst h;exact⟨rfl,rfl,g3⟩
     ·have XL:((c.toNat:Int)==47)=false:=by rw[ai];exact fun e=>hc ((mQ c 47).2 e)
      have an8:=bD hc;clear hc;by_cases tI:m=0
      ·have CB:((m:Int)==0)=true:=by rw[tI];rfl
       have qq:Hy (F=.bad 40):=by rw[Hy,TZ.o,gO,aa ac0.o,aa an8.o,ae (bd (by rw[<-HMG.o];exact tI))]
       have aA2:(Rs.bad 40).live=false:=rfl;clear tI TZ;go_wp2_with fail;refine(og s b _ 40 (by decide) w5 fV.o.rs).mono ?_;rintro e w7 ⟨rfl,h7,rI⟩;have h7:gb w7 b s (.bad 40):=h7;have jI:=bD (fV.o.step rI h7);clear h7 rI fV CB T2 XL pf;go_wp2_with fail;refine(dw s b _ w7 jI.o.rs).mono ?_;rintro e w8 ⟨rfl,rfl⟩;go_wp2_with fail;go_roundw
       case rel=>exact⟨_,_,at_,jI.o,.inl ⟨rfl,by rw[Hy,qq.o];rfl⟩⟩
       case measure=>rw[HM.o,tg jI.o.rs rfl];have:=Ij.o;omega
      ·have CB:((m:Int)==0)=false:=by rw[ai];omega
       have CH:Hy (¬wF=[]):=fun e=>tI (by rw[HMG.o,e];rfl);clear tI;go_wp2_with fail;refine(dw s b _ w5 fV.o.rs).mono ?_;rintro e w6 ⟨rfl,rfl⟩;obtain⟨p0,p1,p2⟩:=nw fV.o.hT;have an9:at_.length<=8:=by rw[<-HN.o];exact qy
       have hTl:=fV.o.hT.lt;have hbT:b<T+1:=by have:=fV.o.lb;have:=fV.o.lY;have:=fV.o.lT;omega
       go_wp2_with fail;refine(Pj s (T+1) b _ 1 v1 _ at_ w5 fV.o.rs fV.o.own hbT hTl hs an9).mono ?_;rintro e w9 VW;obtain⟨⟨va9,at9,rfl,ho9,-,YV⟩,h9,fq⟩:=VW;obtain⟨A9,c9,hv9⟩:=ho9.form;rw[ah]at hv9;subst hv9;obtain⟨Te,Za⟩:=fV.o.tok fq h9 ho9;have EL:=bD Te;have HRA:=bD (Sq TZ.o ac0.o an8.o CH.o rfl YV);generalize(Rs.go k1).after (L s) (qi at_)=x9 at*;obtain⟨r0,r1,r2⟩:=nw Za;obtain⟨f0,f1,f2⟩:=VE Za;clear Te Za h9 fq ho9 YV p0 p1 p2 hTl hbT an9 fV CB T2 XL pf;go_wp2_with fail;go_roundw
       case rel=>
        refine⟨x9,_,at9,EL.o,?_⟩;cases hl:x9.live with
        |false=>exact .inl ⟨rfl,HRA.o.1 hl⟩
        |true=>
         obtain⟨k5,rfl⟩:=ou hl;obtain⟨q1,q2,q3⟩:=HRA.o.2 k5 rfl;have:=Ij.o;have:=Am.o;exact .inr ⟨n,k5,rfl,q3,by omega,EL.o.rs.size,q2⟩
       case measure=>
        rw[HM.o];have h1:=Ij.o;have h2:=Am.o
        show EK b s.size (j5 w9 T (.int .i64 1) (.string v1) (.slice A9 at9.length c9))<_
        cases hl:x9.live with
        |false=>rw[tg EL.o.rs hl];omega
        |true=>
         obtain⟨k5,rfl⟩:=ou hl;obtain⟨q1,q2,q3⟩:=HRA.o.2 k5 rfl;have:=EL.o.rs.size;rw[MB EL.o.rs];omega
end Go.Proofs.YtejafaaihodehaaGreatDoor
