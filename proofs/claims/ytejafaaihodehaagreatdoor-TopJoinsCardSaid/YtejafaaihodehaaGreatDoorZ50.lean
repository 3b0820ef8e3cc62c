/- Part 50. -/
import Derived.Test.YtejafaaihodehaaGreatDoorZ49
set_option linter.all false
set_option maxRecDepth 100000
set_option maxHeartbeats 8000000
namespace Go.Proofs.YtejafaaihodehaaGreatDoor
open Go Go.RowKit Tryz
theorem MO(v:cK):(Jg v).AP:=by
 simp only[cK.AP,Jg,ay];omega
theorem MP(l:List gw):∀r∈tt l,r.jK.length<=500/\r.body.length<=1500:=fun r hr=>by
 unfold tt at hr;obtain⟨x,-,rfl⟩:=List.mem_map.1 hr;simp only[uP,ay];omega
theorem SE(D:lq)(base body:Bt):(iZ D base body true).1.out.length<=20000:=by
 unfold iZ;split
 ·rw[ae rfl]
  show(ku D base body).out.length<=20000
  unfold ku;split
  ·simp[cF]
  ·have:=(xP D (gJ D 4 base (cM body).1) false 0 (cM body).1 [] 0 (by simp)).1;omega
 ·simp[fy]
theorem Pv(W:World)(R:Nat)(v:cK)(base body:Bt)(eU:Bool):W.grownBy (ts W R v base body eU) (some R):=by
 unfold ts DD
 repeat (refine bF ?_ (.inl rfl) _)
 exact bR _ _
structure TJ(w W:World)(P:Nat)(V:cK)(B Y:Bt)(A:Option Addr)(n c:Nat)(cR:List gw):Prop where
 x:bL W P 25 (cj V B Y true)
 r:GR W (fun k=>k≠P) (.row 5 (cR.map gw.gv)) [.slice A n c]
 b:Below w.heap.size w W
 g:eK W
theorem TJ.below{w W W':World}{P:Nat}{V:cK}{B Y:Bt}{A:Option Addr}{n c:Nat}{cR:List gw}(h:TJ w W P V B Y A n c cR)(hb:Below W.heap.size W W'):TJ w W' P V B Y A n c cR:=
 ⟨h.x.below hb h.x.lt,h.r.below hb,h.b.trans (hb.mono h.b.size),h.g.below hb⟩
structure TK(w W:World)(P:Nat)(V:cK)(B Y:Bt)(A:Option Addr)(n c:Nat)(cR:List gw)(RA:Nat)(ra:fo)(lx ly:List Elem)(vx vy:Value):Prop where
 t:TJ w W P V B Y A n c cR
 a:bL W RA 31 (bI ra)
 gx:GR W (fun _=>True) (.row 7 (lx.map Elem.gv)) [vx]
 gy:GR W (fun _=>True) (.row 7 (ly.map Elem.gv)) [vy]
theorem TK.below{w W W':World}{P:Nat}{V:cK}{B Y:Bt}{A:Option Addr}{n c:Nat}{cR:List gw}{RA:Nat}{ra:fo}{lx ly:List Elem}{vx vy:Value}(h:TK w W P V B Y A n c cR RA ra lx ly vx vy)(hb:Below W.heap.size W W'):TK w W' P V B Y A n c cR RA ra lx ly vx vy:=
 ⟨h.t.below hb,h.a.below hb h.a.lt,h.gx.below hb,h.gy.below hb⟩
theorem EV(v:cK)(b y:Bt)(q:Bool)(more:Bt)(l:List gw)(rv:Value)(F:Nat->Prop)(w:World)(hg:eK w)(hv:GR w F (.row 5 (l.map gw.gv)) [rv]):
 Calls prog 3 #[nJ v b y q,.string (bs more),rv] w fun e w'=>e=.returned (.bool true)/\Below w.heap.size w w':=by
 have YO:=bD (fun W=>Ok v b y q W);have Yw:(b.take 300).length<=300:=by rw[ay];omega
 have hYl:(y.take 2000).length<=2000:=by rw[ay];omega
 have hVt:=MO v;have QG:=bD (fun W (hb:Below w.heap.size w W)=>Oo l rv (fun k=>F k/\k<w.heap.size) W ((GR.du _ _ hv).below hb));have mC:=MP l;obtain⟨tn,YN⟩:∃tn,tn=min more.length 1000:=⟨_,rfl⟩;have aF0:min (more.length:Int) 1000=(tn:Int):=by omega
 have hmx:=yS more 1000 tn YN;have hmt:(tn:Int)<=(more.length:Int):=by omega
 have IK:(more.take 1000).length<=1000:=by rw[ay];omega
 have hms:=bJ more;generalize b.take 300=B at*;generalize y.take 2000=Y at*;generalize more.take 1000=M at*;generalize Jg v=V at*;unfold yU at QG;generalize tt l=cR at*;have ap5:=bD (SD (iE V cR) B Y M);have Dq:=bD (fun body (hl:body.length<=3000) rv F W hg GP=>Sh V hVt cR mC B body true (by omega) hl rv F W hg GP);have wQ:=bD (fun By body (hl:body.length<=3000) rv F W hg GP=>Rk V (iE V cR) B By body true rv F (qJ B (by omega)) (fun _ M rv=>H0 V _ rv M (Mo hVt mC) 4 (dv _) _) (Ey hVt cR hl) (by omega) W hg GP);have j4:=bD (fun body=>SE (iE V cR) B body);have qT:=bD Yw;have HYL:=bD hYl;have Lf:=bD IK;have cg:Below w.heap.size w (w.alloc (.cells (cj v b y q) 25)):=cU _ _;have HX:=bD (bL.new w 25 (cj v b y q));have HB:=bD cg;have HG:=bD (fun W (hb:Below w.heap.size w W)=>hg.below hb);obtain⟨A0,c0,rfl,-,-,-⟩:=pC hv;clear cg hv hg Yw hYl hVt mC IK YN;simp only[nJ]at*;go_enter func3,ntmps3;go_upto_region 1 with(fail)
 change Code.wp _ _ _ _ (w.alloc (.cells (cj v b y q) 25));generalize w.alloc (.cells (cj v b y q) 25)=w0 at*;generalize Dz:w.heap.size=P at*;have kz:=bD Dz;clear Dz;obtain⟨x0,x1,x2,x3,x4,x5,x6,x7,x8⟩:=zM HX.o;simp[cj]at x0 x1 x2 x3 x4 x5 x6 x7 x8;go_wp2_with fail;refine(YO.o w0).mono ?_;rintro e w1 ⟨rfl,dG⟩;clear x0 x1 x2 x3 x4 x5 x6 x7 x8;have hx:=HX.o.below dG HX.o.lt;have jL:=HB.o.trans (dG.mono (by have:=HB.o.size;rw[kz.o]at this;exact this));clear YO dG HX HB;have HX:=bD hx;have HB:=bD jL;clear hx jL;go_wp2_with fail;refine(QG.o w1 HB.o).mono ?_;rintro e w2 ⟨A,c,rfl,HO,cu⟩;have hx:=HX.o.below cu HX.o.lt;have jL:=HB.o.trans (cu.mono (by have:=HB.o.size;rw[kz.o]at this;exact this));have Ad:GR w2 (fun k=>k≠P) (.row 5 (cR.map gw.gv)) [.slice A cR.length c]:=by
  have hPl:=HX.o.lt;refine HO.o.gr (fun k hk=>?_) (fun k hk=>?_)
  ·have:=hk.1.2;omega
  ·have:=(HO.o.lt k hk).1;omega
 clear QG cu HX HB HO;have HX:=bD hx;have HB:=bD jL;have HR:=bD Ad;clear hx jL Ad;obtain⟨x0,x1,x2,x3,x4,x5,x6,x7,x8⟩:=zM HX.o;simp[cj]at x0 x1 x2 x3 x4 x5 x6 x7 x8;obtain⟨f0,f1,f2,f3,f4,f5,f6,f7,f8⟩:=Zj HX.o;go_upto_region 2 with(fail)
 change Code.wp _ _ _ _ (ts w2 P V B Y q);have ry:=bD (n7 HX.o V B Y q);have gI:=bD (kV HB.o (dv P) V B Y q);have cO:=Pv w2 P V B Y q;have DA:=HR.o.grown cO (fun k hk=>hk);generalize ts w2 P V B Y q=w3 at*;clear x0 x1 x2 x3 x4 x5 x6 x7 x8 f0 f1 f2 f3 f4 f5 f6 f7 f8 HX HB HR cO;have yp:=bD DA;clear DA;have x8:=ry.o.cell 8;simp[cj]at x8;have f8:=ry.o.frozen 8;go_upto_region 3 with(fail)
 have hx:bL (w3.setCell ⟨P,8,none⟩ (.bool true)) P 25 (cj V B Y true):=ry.o.cL 8 (.bool true);have jL:=gI.o.setCell (p:=⟨P,8,none⟩) (dv P) (.bool true);have wR:=yp.o.grown (bF (bR w3 (some P)) (p:=⟨P,8,none⟩) (.inl rfl) (.bool true)) (fun k hk=>hk);change Code.wp _ _ _ _ (w3.setCell ⟨P,8,none⟩ (.bool true));have HT:Hy (TJ w (w3.setCell ⟨P,8,none⟩ (.bool true)) P V B Y A cR.length c cR):=⟨hx,wR,by rw[kz.o];exact jL,HG.o _ jL⟩;generalize w3.setCell ⟨P,8,none⟩ (.bool true)=w4 at*;clear hx jL wR ry gI yp x8 f8 HG;obtain⟨x0,x1,x2,x3,x4,x5,x6,x7,x8⟩:=zM HT.o.x;simp[cj]at x0 x1 x2 x3 x4 x5 x6 x7 x8;have HC:=bD (Dq.o Y (by have:=HYL.o;omega) (.slice A cR.length c) _ w4 HT.o.g HT.o.r);have VT:=bD (j4.o Y);generalize hE:iZ (iE V cR) B Y true=EA at*;have HEA:=bD hE;clear hE;obtain⟨ra,ea⟩:=EA;have VT:Hy (ra.out.length<=20000):=VT;simp only[fo.val]at HC;go_wp2_with fail;refine HC.o.mono ?_;rintro e w5 ⟨rfl,kM⟩;clear x0 x1 x2 x3 x4 x5 x6 x7 x8;have ht5:=HT.o.below kM;clear HC HT kM;go_upto_region 5 with(fail)
 have cg:Below w5.heap.size w5 (w5.alloc (.cells (bI ra) 31)):=cU _ _;have HA:=bD (bL.new w5 31 (bI ra));have HT:=bD (ht5.below cg);clear ht5 cg;change Code.wp _ _ _ _ (w5.alloc (.cells (bI ra) 31));generalize w5.alloc (.cells (bI ra) 31)=w6 at*;generalize w5.heap.size=RA at*;obtain⟨x0,x1,x2,x3,x4,x5,x6,x7,x8⟩:=zM HT.o.x;simp[cj]at x0 x1 x2 x3 x4 x5 x6 x7 x8;obtain⟨a0,a1,a2,a3⟩:=lG HA.o;simp[bI]at a0 a1 a2 a3;by_cases hea:ea=0
 ·subst hea;by_cases Bl:ra.state=0
  ·have E5:(ra.state !=0)=false:=by rw[Bl];rfl
   have sk:=bD Bl;clear Bl;have HO:=bD (Sy Y (by have:=HYL.o;omega) w6);cases hod:Pu Y with
   |true=>
    rw[hod]at HO;go_wp2_with fail;refine HO.o.mono ?_;rintro e w7 ⟨rfl,lH⟩;clear x0 x1 x2 x3 x4 x5 x6 x7 x8;clear a0 a1 a2 a3;have ht:=HT.o.below lH;clear HT lH;have HT:=bD ht;clear ht;go_wp2_with fail;refine(pt _ HT.o.g).mono ?_;rintro e w99 ⟨rfl,MQ⟩;have VB:=bD (HT.o.below MQ);clear MQ;go_wp2_with fail;go_ret;exact⟨rfl,VB.o.b⟩
   |false=>
    rw[hod]at HO;have HOD:=bD hod;clear hod;go_wp2_with fail;refine HO.o.mono ?_;rintro e w7 ⟨rfl,lH⟩;clear x0 x1 x2 x3 x4 x5 x6 x7 x8;clear a0 a1 a2 a3;have ht:=HT.o.below lH;have ha:=HA.o.below lH HA.o.lt;clear HT lH HO HA;have HT:=bD ht;have HA:=bD ha;clear ht ha;go_wp2_with fail;refine(pt _ HT.o.g).mono ?_;rintro e w8 ⟨rfl,oN⟩;have ht:=HT.o.below oN;have ha:=HA.o.below oN HA.o.lt;clear HT oN HA;have HT:=bD ht;have HA:=bD ha;clear ht ha;obtain⟨x0,x1,x2,x3,x4,x5,x6,x7,x8⟩:=zM HT.o.x;simp[cj]at x0 x1 x2 x3 x4 x5 x6 x7 x8;go_upto_region 7 with(fail)
    have Gt:=bD (fun s W (hs:s.length<=3000)=>JX (bs s) W (by rw[bJ];omega));have hba:bs Y++bs M=bs (Y++M):=jc _ _;have yw:(bs Y).size+(bs M).size<=100000:=by rw[bJ,bJ];have:=HYL.o;have:=Lf.o;omega
    have HYM:Hy ((Y++M).length<=3000):=by rw[Hy,af];have:=HYL.o;have:=Lf.o;omega
    have Cy:=bD (Gt.o Y w8 (by have:=HYL.o;omega));rw[eB]at Cy;generalize h1:xc Y=X1 at*;have Gq:=bD h1;clear h1;obtain⟨lx,ex⟩:=X1;go_wp2_with fail;refine Cy.o.mono ?_;rintro e w9 ⟨⟨Ax,cx,rfl,hgx⟩,fq⟩;clear x0 x1 x2 x3 x4 x5 x6 x7 x8;have ht:=HT.o.below fq;have ha:=HA.o.below fq HA.o.lt;clear HT HA;have HT:=bD ht;have HA:=bD ha;clear ht ha;have HGX:=bD (hgx.dY (F':=fun _=>True) (fun k _=>trivial));clear hgx fq Cy;have Cy:=bD (Gt.o M w9 (by have:=Lf.o;omega));rw[eB]at Cy;generalize h1:xc M=X1 at*;have iL:=bD h1;clear h1;obtain⟨ly,ey⟩:=X1;obtain⟨x0,x1,x2,x3,x4,x5,x6,x7,x8⟩:=zM HT.o.x;simp[cj]at x0 x1 x2 x3 x4 x5 x6 x7 x8;go_wp2_with fail;refine Cy.o.mono ?_;obtain⟨w8,rfl⟩:∃w8:World,w8=w9:=⟨_,rfl⟩;rintro e w9 ⟨⟨Ay,cy,rfl,hgy⟩,fq⟩;clear x0 x1 x2 x3 x4 x5 x6 x7 x8;have ht:=HT.o.below fq;have ha:=HA.o.below fq HA.o.lt;clear HT HA;have HT:=bD ht;have HA:=bD ha;clear ht ha;have hgx:=HGX.o.below fq;clear HGX;have HGX:=bD hgx;have HGY:=bD (hgy.dY (F':=fun _=>True) (fun k _=>trivial));clear hgx hgy fq Cy;have Cy:=bD (Gt.o (Y++M) w9 HYM.o);rw[eB]at Cy;generalize h1:xc (Y++M)=X1 at*;have ry:=bD h1;clear h1 Gt;obtain⟨lz,ez⟩:=X1;obtain⟨x0,x1,x2,x3,x4,x5,x6,x7,x8⟩:=zM HT.o.x;simp[cj]at x0 x1 x2 x3 x4 x5 x6 x7 x8;go_wp2_with fail;refine Cy.o.mono ?_;obtain⟨w8,rfl⟩:∃w8:World,w8=w9:=⟨_,rfl⟩;rintro e w9 ⟨⟨Az,cz,rfl,-⟩,fq⟩;clear x0 x1 x2 x3 x4 x5 x6 x7 x8;have ht:=HT.o.below fq;have ha:=HA.o.below fq HA.o.lt;clear HT HA;have HT:=bD ht;have HA:=bD ha;clear ht ha;have mq:Hy (TK w w9 P V B Y A cR.length c cR RA ra lx ly (.slice Ax lx.length cx) (.slice Ay ly.length cy)):=⟨HT.o,HA.o,HGX.o.below fq,HGY.o.below fq⟩;clear HT HA HGX HGY fq Cy;obtain⟨x0,x1,x2,x3,x4,x5,x6,x7,x8⟩:=zM mq.o.t.x;simp[cj]at x0 x1 x2 x3 x4 x5 x6 x7 x8;by_cases h1:ex=0
    ·subst h1;by_cases h2:ey=0
     ·subst h2;by_cases h3:ez=0
      ·subst h3;have OL:=bD (oZ (Y++M) #[105,110,108,105,110,101] (by have:=HYM.o;omega) w9 mq.o.t.g);cases NF:Lib.contains (Y++M) df with
       |true=>
        rw[show(#[105,110,108,105,110,101]:Array UInt8).toList=df from rfl,NF]at OL;go_wp2_with fail;refine OL.o.mono ?_;rintro e VG ⟨rfl,XT⟩;subst XT;go_wp2_with fail;go_ret;exact⟨rfl,mq.o.t.b⟩
       |false=>
        rw[show(#[105,110,108,105,110,101]:Array UInt8).toList=df from rfl,NF]at OL;have HCC:=bD NF;clear NF;go_wp2_with fail;refine OL.o.mono ?_;rintro e VG ⟨rfl,XT⟩;rw[<-XT];clear XT OL VG;clear x0 x1 x2 x3 x4 x5 x6 x7 x8;go_wp2_with fail;go_loopw [90] (fun i wr=>∃k:Nat,k<=cR.length/\i=.int .i64 k/\Hy (∀r∈cR.take k,r.eU=false)/\Hy (TK w wr P V B Y A cR.length c cR RA ra lx ly (.slice Ax lx.length cx) (.slice Ay ly.length cy))) (fun i wr=>cR.length-(intOf i).toNat)
        case atStart=>exact⟨0,ax _,rfl,(by simp[Hy]),mq.o⟩
        case round=>
         clear mq;obtain⟨k,hk,rfl,HES,mq⟩:=hrel;obtain⟨A',c',WA,wv,mz,dS⟩:=pC mq.o.t.r;injection WA with q1 q2 q3
         subst q1 q3;unfold maxLen at mz;by_cases bW:k<cR.length
         ·obtain⟨bq,oq,rfl,-,dS⟩:=dS (by rintro rfl;simp at bW);have hE:=dS k bW;have e0:=hE.c0;have e1:=hE.c1;have e2:=hE.c2;have e3:=hE.c3;have e4:=hE.c4;have nE:(0:Int)<=(k:Int):=by omega
          have fA:(k:Int)<(cR.length:Int):=by omega
          have ap6:Hy (cR[k].eU=false->∀r∈cR.take (k+1),r.eU=false):=fun h r hr=>by
           rw[aC bW]at hr;rcases List.mem_append.1 hr with hr|hr
           ·exact HES.o r hr
           ·rw[aV]at hr;rw[hr];exact h
          clear dS hE q2 HES;generalize cR[k]=r at*;go_upto_region 15 with(fail)
          have cg:Below wr.heap.size wr (wr.alloc (.cells (dT r) 41)):=cU _ _;have hX:=bL.new wr 41 (dT r);have MR:=bD (mq.o.below cg);change Code.wp _ _ _ _ (wr.alloc (.cells (dT r) 41));generalize wr.alloc (.cells (dT r) 41)=w11 at*;clear mq cg e0 e1 e2 e3 e4;have mq:=MR;clear MR;have z2:=hX.cell 2;simp[dT]at z2;cases hes:r.eU with
          |true=>
           rw[hes]at z2;go_wp2_with fail;go_ret;exact⟨rfl,mq.o.t.b⟩
          |false=>
           rw[hes]at z2;have az3:=bD (ap6.o hes);clear ap6 hes;go_wp2_with fail;go_roundw
           case rel=>exact⟨k+1,bW,by go_num,az3.o,mq.o⟩
           case measure=>simp[intOf];omega
         ·have ln:k=cR.length:=by omega
          subst ln;rw[aM]at HES;have ap7:Hy (∀r∈(iE V cR).cN,r.eU=false):=HES.o;have e1:=(ES Y).1 (by rw[Gq.o]);have e2:=(ES M).1 (by rw[iL.o]);have e3:=(ES (Y++M)).1 (by rw[ry.o]);rw[Gq.o]at e1;rw[iL.o]at e2;rw[ry.o]at e3;have s1:=EE (s:=Y) (by rw[<-e1]);have s2:=EE (s:=M) (by rw[<-e2]);rw[<-e1]at s1;rw[<-e2]at s2;have n1:=xx _ lx (dv _);have n2:=xx _ ly (dv _);have tQ:(dZ lx).length<=1000:=by have s1:fC lx<=400:=s1;omega
          have Ix:(dZ ly).length<=1000:=by have s2:fC ly<=400:=s2;omega
          have ap8:=bD (yY 400 lx _ _ wr s1 (by omega) mq.o.gx);have ap9:=bD (fun W h=>yY 400 ly (.slice Ay ly.length cy) (fun _=>True) W s2 (by omega) h);have az4:Hy (∀(hc:(dZ lx).length+(dZ ly).length<=20) (hl:ra.out.length+(iZ (iE V cR) B M true).1.out.length<=10000),(iZ (iE V cR) B (Y++M) true).1=(iZ (iE V cR) B M true).1.ia ra.out):=
           fun hc hl=>ap5.o HOD.o (by rw[<-e1]) (by rw[<-e2]) (by rw[<-e3]) HCC.o ap7.o (by rw[<-e1,<-e2];exact hc) HYL.o Lf.o (by first|rfl|trivial) sk.o hl
          clear e1 e2 e3 s1 s2 n1 n2 ap5 HES ap7 Gq iL ry HCC HOD sk dS bW hk HEA;go_wp2_with fail;refine ap8.o.mono ?_;rintro e Wa ⟨v1,rfl,hov,aq0⟩;obtain⟨A1,c1,rfl⟩:=b8.form hov;rw[ah];have MR:=bD (mq.o.below aq0);clear hov aq0 mq ap8;have mq:=MR;clear MR;go_wp2_with fail;refine(ap9.o Wa mq.o.gy).mono ?_;rintro e Tf ⟨v2,rfl,hov,aq1⟩;obtain⟨A2,c2,rfl⟩:=b8.form hov;rw[ah];have MR:=bD (mq.o.below aq1);clear hov aq1 mq ap9;have mq:=MR;clear MR;generalize dZ lx=KX at*;generalize dZ ly=KY at*;have hwr:IntKind.i64.wrap ((KX.length:Int)+(KY.length:Int))=(KX.length:Int)+(KY.length:Int):=aI _ (by omega);by_cases aq2:KX.length+KY.length<=20
          ·have hki:¬(20:Int)<(KX.length:Int)+(KY.length:Int):=by omega
           have az5:=bD aq2;clear aq2;obtain⟨x0,x1,x2,x3,x4,x5,x6,x7,x8⟩:=zM mq.o.t.x;simp[cj]at x0 x1 x2 x3 x4 x5 x6 x7 x8;have zZ:=bD (wQ.o Y M (by have:=Lf.o;omega) (.slice A cR.length c) _ Tf mq.o.t.g mq.o.t.r);have PE:=bD (j4.o M);generalize iZ (iE V cR) B M true=EB at*;obtain⟨rb,eb⟩:=EB;have PE:Hy (rb.out.length<=20000):=PE;simp only[fo.val]at zZ;go_wp2_with fail;refine zZ.o.mono ?_;rintro e Yt ⟨rfl,WK⟩;clear x0 x1 x2 x3 x4 x5 x6 x7 x8;have so:=mq.o.below WK;clear mq zZ WK;go_upto_region 21 with(fail)
           have cg:Below Yt.heap.size Yt (Yt.alloc (.cells (bI rb) 31)):=cU _ _;have wB:=bD (bL.new Yt 31 (bI rb));have mq:=bD (so.below cg);change Code.wp _ _ _ _ (Yt.alloc (.cells (bI rb) 31));generalize Yt.alloc (.cells (bI rb) 31)=w15 at*;generalize Yt.heap.size=RB at*;clear so cg;have mE:=bD (wQ.o Y (Y++M) HYM.o (.slice A cR.length c) _ w15 mq.o.t.g mq.o.t.r);generalize iZ (iE V cR) B (Y++M) true=EC at*;obtain⟨rc,ec⟩:=EC;simp only[fo.val]at mE;obtain⟨x0,x1,x2,x3,x4,x5,x6,x7,x8⟩:=zM mq.o.t.x;simp[cj]at x0 x1 x2 x3 x4 x5 x6 x7 x8;go_wp2_with fail;refine mE.o.mono ?_;rintro e w16 ⟨rfl,ac6⟩;clear x0 x1 x2 x3 x4 x5 x6 x7 x8;have so:=mq.o.below ac6;have jL:=wB.o.below ac6 wB.o.lt;clear mq wB mE ac6;go_upto_region 22 with(fail)
           have cg:Below w16.heap.size w16 (w16.alloc (.cells (bI rc) 31)):=cU _ _;have Y3:=bD (bL.new w16 31 (bI rc));have mq:=bD (so.below cg);have wB:=bD (jL.below cg jL.lt);change Code.wp _ _ _ _ (w16.alloc (.cells (bI rc) 31));generalize w16.alloc (.cells (bI rc) 31)=w17 at*;generalize w16.heap.size=RC at*;clear so jL cg;have a0:=mq.o.a.cell 0;obtain⟨b0,b1,b2,b3⟩:=lG wB.o;obtain⟨c0,c1,c2,c3⟩:=lG Y3.o;simp[bI]at a0 b0 b1 b2 b3 c0 c1 c2 c3;have Ya:=VT.o;have hlb:=PE.o;have hza:=bJ ra.out;have hzb:=bJ rb.out;have hwo:IntKind.i64.wrap ((ra.out.length:Int)+(rb.out.length:Int))=(ra.out.length:Int)+(rb.out.length:Int):=aI _ (by omega);by_cases hl:ra.out.length+rb.out.length<=10000
           ·have Yo:¬(10000:Int)<(ra.out.length:Int)+(rb.out.length:Int):=by omega
            have hrc:rc=rb.ia ra.out:=az4.o az5.o hl;have aA3:(bs ra.out).size+(bs rb.out).size<=100000:=by omega
            have hbo:bs ra.out++bs rb.out=bs (ra.out++rb.out):=jc _ _;subst hrc;have c0:w17.cell? ⟨RC,0,none⟩=some (.string (bs (ra.out++rb.out))):=c0;have c1:w17.cell? ⟨RC,1,none⟩=some (.int .i64 rb.state):=c1;have c2:w17.cell? ⟨RC,2,none⟩=some (.int .i64 rb.bad):=c2;have c3:w17.cell? ⟨RC,3,none⟩=some (.string (bs rb.qR)):=c3;go_wp2_with fail;go_ret;have hq:((bs (fo.ia ra.out rb).out).toList==(bs (ra.out++rb.out)).toList)=true:=beq_self_eq_true (bs (ra.out++rb.out)).toList;exact⟨congrArg (fun z=>Ending.returned (Value.bool z)) hq,mq.o.t.b⟩
           ·have Yo:(10000:Int)<(ra.out.length:Int)+(rb.out.length:Int):=by omega
            go_wp2_with fail;go_ret;exact⟨rfl,mq.o.t.b⟩
          ·have hki:(20:Int)<(KX.length:Int)+(KY.length:Int):=by omega
           have SG:20<KX.length+KY.length:=by omega
           go_wp2_with fail;go_ret;exact⟨rfl,mq.o.t.b⟩
      ·have fm:(ez !=0)=true:=by rw[aQ];exact h3
       clear h3;go_wp2_with fail;go_ret;exact⟨rfl,mq.o.t.b⟩
     ·have cu:(ey !=0)=true:=by rw[aQ];exact h2
      clear h2;go_wp2_with fail;go_ret;exact⟨rfl,mq.o.t.b⟩
    ·have dG:(ex !=0)=true:=by rw[aQ];exact h1
     clear h1;go_wp2_with fail;go_ret;exact⟨rfl,mq.o.t.b⟩
  ·have E5:(ra.state !=0)=true:=by rw[aQ];exact Bl
   clear Bl;go_wp2_with fail;refine(pt _ HT.o.g).mono ?_;rintro e w99 ⟨rfl,MQ⟩;have VB:=bD (HT.o.below MQ);clear MQ;go_wp2_with fail;go_ret;exact⟨rfl,VB.o.b⟩
 ·have heb:(ea !=0)=true:=by rw[aQ];exact hea
  clear hea;go_wp2_with fail;refine(pt _ HT.o.g).mono ?_;rintro e w99 ⟨rfl,MQ⟩;have VB:=bD (HT.o.below MQ);clear MQ;go_wp2_with fail;go_ret;exact⟨rfl,VB.o.b⟩
end Go.Proofs.YtejafaaihodehaaGreatDoor
