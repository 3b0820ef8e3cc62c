/- Part 6. -/
import Derived.Test.YtejafaaihodehaaGreatDoorZ05
import Derived.Deep.CutRange
import Derived.Deep.CutBlock
import Derived.IntWalk
set_option linter.all false
set_option maxRecDepth 100000
set_option maxHeartbeats 8000000
namespace Go.Proofs.YtejafaaihodehaaGreatDoor
open Go Go.RowKit Tryz
theorem below_drewN{B:Nat}{a w:World}(h:Below B a w)(n:Nat):Below B a (w.drewN n):=⟨h.os,h.tape,h.output,h.size,h.block⟩
def gP(W:World)(R:Nat)(u:eG):World:=
 (((((W.setCell ⟨R,0,none⟩ (.bool u.mA)).setCell ⟨R,1,none⟩ (.string (bs u.eX))).setCell ⟨R,2,none⟩ (.int .i64 u.port)).setCell ⟨R,3,none⟩ (.string (bs u.path))).setCell ⟨R,4,none⟩ (.bool u.asks)).setCell ⟨R,5,none⟩ (.string (bs u.cI))
theorem kg{W:World}{R:Nat}{t:TypeId}{a0 a1 a2 a3 a4 a5:Value}(h:bL W R t #[a0,a1,a2,a3,a4,a5])(u:eG):bL (gP W R u) R t (ch u):=
 (((((h.cL 0 (.bool u.mA)).cL 1 (.string (bs u.eX))).cL 2 (.int .i64 u.port)).cL 3 (.string (bs u.path))).cL 4 (.bool u.asks)).cL 5 (.string (bs u.cI))
theorem iF{B R:Nat}{a w:World}(h:Below B a w)(hR:B<=R)(u:eG):Below B a (gP w R u):=
 (((((h.setCell (p:=⟨R,0,none⟩) hR _).setCell (p:=⟨R,1,none⟩) hR _).setCell (p:=⟨R,2,none⟩) hR _).setCell (p:=⟨R,3,none⟩) hR _).setCell (p:=⟨R,4,none⟩) hR _).setCell (p:=⟨R,5,none⟩) hR _
theorem Gs{W:World}{R g:Nat}{t:TypeId}{cs:Array Value}(h:bL W g t cs)(db:g≠R)(u:eG):bL (gP W R u) g t cs:=
 (((((h.gf (p:=⟨R,0,none⟩) db _).gf (p:=⟨R,1,none⟩) db _).gf (p:=⟨R,2,none⟩) db _).gf (p:=⟨R,3,none⟩) db _).gf (p:=⟨R,4,none⟩) db _).gf (p:=⟨R,5,none⟩) db _
theorem Iu{w:World}{X:Nat}{tmps:Array Value}{u:eG}(h4:tmps[4]?.getD undef=.pointer (some ⟨X,0,none⟩))(B0:bL w X 64 (ch u)):
 (results f34 tmps).run prog w=.ok u.val w:=by
 obtain⟨a0,a1,a2,a3,a4,a5⟩:=nB B0;simp[ch]at a0 a1 a2 a3 a4 a5;simp[results,results34,go_sem,h4,a0,a1,a2,a3,a4,a5,eG.val]
theorem jT(s:ByteArray)(c:Bt)(hs:s.size<=1000000)(w:World)(hg:eK w):
 Calls prog 56 #[.string s,.string ⟨c.toArray⟩] w fun e w'=>∃a b f n,e=.returned (.tuple #[.string (bs a),.string (bs b),.bool f])/\Hy (Lib.cut (L s) c=(a,b,f))/\w'=w.drewN n:=by
 obtain⟨m,hm⟩:=hg.1;refine(strings_Cut s (bs c) m w (by omega) hm).mono ?_;rintro e w' ⟨rfl,n,rfl⟩;rw[ga];exact⟨_,_,_,n,rfl,rfl,rfl⟩
def ZE(u:eG)(w:World)(e:Ending)(w':World):Prop:=e=.returned u.val/\Below w.heap.size w w'
theorem Nk(s:ByteArray)(u:eG)(hs:s.size<=1000000)(w:World)(hg:eK w):
 Calls prog 34 #[.string s,u.val] w (ZE (wG (L s) u) w):=by
 obtain⟨m,hm⟩:=hg.1;obtain⟨mA,eX,port,path,asks,cI⟩:=u;have HP:Hy (wG (L s) ⟨mA,eX,port,path,asks,cI⟩=⟨mA,eX,port,(Lib.cut (L s) [63]).1,(Lib.cut (L s) [63]).2.2,(Lib.cut (L s) [63]).2.1⟩):=rfl;generalize wG (L s) ⟨mA,eX,port,path,asks,cI⟩=PF at*;simp only[eG.val]at*;have CU:Below w.heap.size w (w.alloc (.cells #[.bool mA,.string (bs eX),.int .i64 port,.string (bs path),.bool asks,.string (bs cI)] 64)):=cU _ _;have hX:=bL.new w 64 #[.bool mA,.string (bs eX),.int .i64 port,.string (bs path),.bool asks,.string (bs cI)];have VH:=hX.alloc (.cells #[.bool false,.string ⟨#[]⟩,.int .i64 0,.string ⟨#[]⟩,.bool false,.string ⟨#[]⟩] 64);have hR:=bL.new (w.alloc (.cells #[.bool mA,.string (bs eX),.int .i64 port,.string (bs path),.bool asks,.string (bs cI)] 64)) 64 #[.bool false,.string ⟨#[]⟩,.int .i64 0,.string ⟨#[]⟩,.bool false,.string ⟨#[]⟩];have hB:=CU.alloc CU.size (.cells #[.bool false,.string ⟨#[]⟩,.int .i64 0,.string ⟨#[]⟩,.bool false,.string ⟨#[]⟩] 64);have hm2:=(hB.cell (p:=⟨0,0,none⟩) (aq w _ hm)).trans hm;rw[size_alloc]at hR;go_enter func34,ntmps34;go_wp2_with fail;refine(jT s [63] hs _ (hg.below hB)).mono ?_;rintro e w3 ⟨a,b,f,n,rfl,PH,tE⟩;have hX3:=VH.drewN n;have hR3:=(show bL ((w.alloc (.cells #[.bool mA,.string (bs eX),.int .i64 port,.string (bs path),.bool asks,.string (bs cI)] 64)).alloc (.cells #[.bool false,.string ⟨#[]⟩,.int .i64 0,.string ⟨#[]⟩,.bool false,.string ⟨#[]⟩] 64)) (w.heap.size+1) _ _ from hR).drewN n;have Iv:=below_drewN hB n;rw[<-tE]at hX3 hR3 Iv;have j6:Hy (PF=⟨mA,eX,port,a,f,b⟩):=by rw[Hy,HP.o,PH.o]
 have HX:=bD hX3;have HR:=bD hR3;have HB:=bD Iv;clear hX3 hR3 Iv hX VH hR hB tE CU hg HP PH;generalize nH:w.heap.size=X at*;have gg:=bD nH;clear nH;have x3:=HX.o.cell 3;have x4:=HX.o.cell 4;have x5:=HX.o.cell 5;have y3:=HX.o.frozen 3;have y4:=HX.o.frozen 4;have y5:=HX.o.frozen 5;go_upto_region 2 with(fail)
 clear x3 x4 x5 y3 y4 y5;obtain⟨w4,qn⟩:∃w4,w4=((w3.setCell ⟨X,3,none⟩ (.string (bs a))).setCell ⟨X,5,none⟩ (.string (bs b))).setCell ⟨X,4,none⟩ (.bool f):=⟨_,rfl⟩;have nx:Hy (bL w4 X 64 #[.bool mA,.string (bs eX),.int .i64 port,.string (bs a),.bool f,.string (bs b)]):=by rw[Hy,qn];exact((HX.o.cL 3 _).cL 5 _).cL 4 _
 have iW:Hy (Below X w w4):=by rw[Hy,qn];exact((HB.o.setCell (p:=⟨X,3,none⟩) (dv _) _).setCell (p:=⟨X,5,none⟩) (dv _) _).setCell (p:=⟨X,4,none⟩) (dv _) _
 have CT:Hy (bL w4 (X+1) 64 #[.bool false,.string ⟨#[]⟩,.int .i64 0,.string ⟨#[]⟩,.bool false,.string ⟨#[]⟩]):=by
  rw[Hy,qn];exact((HR.o.gf (p:=⟨X,3,none⟩) (by show X+1≠X;omega) _).gf (p:=⟨X,5,none⟩) (by show X+1≠X;omega) _).gf (p:=⟨X,4,none⟩) (by show X+1≠X;omega) _
 rw[<-qn];clear qn HX HB HR;obtain⟨x0,x1,x2,x3,x4,x5⟩:=nB nx.o;obtain⟨r0,r1,r2,r3,r4,r5⟩:=nB CT.o;obtain⟨y0,y1,y2,y3,y4,y5⟩:=Nd CT.o;go_wp2_with fail;have hb:=kg CT.o ⟨mA,eX,port,a,f,b⟩;have hl:=iF iW.o (show X<=X+1 by omega) ⟨mA,eX,port,a,f,b⟩;clear x0 x1 x2 x3 x4 x5 r0 r1 r2 r3 r4 r5 y0 y1 y2 y3 y4 y5;change bodyPost _ _ _ _ _ (gP w4 (X+1) ⟨mA,eX,port,a,f,b⟩);generalize gP w4 (X+1) ⟨mA,eX,port,a,f,b⟩=W at*;refine ag (Iu rfl hb) rfl ⟨?_,by rw[gg.o];exact hl⟩;rw[j6.o]
theorem lS{w:World}{X:Nat}{tmps:Array Value}{u:eG}{b:Value}(h4:tmps[4]?.getD undef=.pointer (some ⟨X,0,none⟩))(h5:tmps[5]?.getD undef=b)(B0:bL w X 64 (ch u)):
 (results f33 tmps).run prog w=.ok (.tuple #[u.val,b]) w:=by
 obtain⟨a0,a1,a2,a3,a4,a5⟩:=nB B0;simp[ch]at a0 a1 a2 a3 a4 a5;simp[results,results33,go_sem,h4,h5,a0,a1,a2,a3,a4,a5,eG.val]
theorem Nl(o:Option (Nat × Bool))(h:∀n b,o=some (n,b)->n<=1099511627776):(vG o).1<=1099511627776:=by
 rcases o with _|⟨n,b⟩
 ·simp[vG]
 ·have:=h n b rfl;cases b<;>simp[vG]<;>omega
theorem ui:∀(l:Bt) (n:Nat) (b:Bool),n<=1099511627776->∀m c,di l n b=some (m,c)->m<=1099511627776
 |[],n,b,h,m,c,e=>by
  rw[di]at e;injection e with e
  injection e with e1 e2
  omega
 |x::l,n,b,h,m,c,e=>by
  rw[qQ]at e;split at e
  ·split at e
   ·exact ui l _ _ (by assumption) m c e
   ·exact ui l _ _ (by omega) m c e
  ·cases e
theorem sy(s:Bt):(cW s).1<=1099511627776:=by
 unfold cW;split
 ·simp
 ·exact Nl _ fun n b h=>ui s 0 false (by omega) n b h
theorem Kt(s:Bt):(jJ s).length=s.length:=by unfold jJ;rw[ah]
theorem Ku(s:ByteArray)(u:eG)(hs:s.size<=1000000)(w:World):
 Calls prog 33 #[.string s,u.val] w fun e w'=>e=.returned (.tuple #[(pN (L s) u).1.val,.bool (pN (L s) u).2])/\Below w.heap.size w w':=by
 obtain⟨mA,eX,port,path,asks,cI⟩:=u;have HP:Hy (pN (L s) ⟨mA,eX,port,path,asks,cI⟩=if dc 58 (L s)=0 then(⟨true,jJ (L s),port,path,asks,cI⟩,true)
  else(⟨true,(jJ (L s)).take (dc 58 (L s)-1),((cW ((L s).drop (dc 58 (L s)))).1:Int),path,asks,cI⟩,
   decide ((cW ((L s).drop (dc 58 (L s)))).2=0)&&(decide ((L s).length-dc 58 (L s)<=5)&&decide (0<(cW ((L s).drop (dc 58 (L s)))).1)))):=rfl
 have Wn:=bD (yn 58 (L s));have QF:=bD (Kt (L s));have nF:=bD (cm s);generalize pN (L s) ⟨mA,eX,port,path,asks,cI⟩=PF at*;simp only[eG.val]at*;have CU:Below w.heap.size w (w.alloc (.cells #[.bool mA,.string (bs eX),.int .i64 port,.string (bs path),.bool asks,.string (bs cI)] 64)):=cU _ _;have hX:=bL.new w 64 #[.bool mA,.string (bs eX),.int .i64 port,.string (bs path),.bool asks,.string (bs cI)];have VH:=hX.alloc (.cells #[.bool false,.string ⟨#[]⟩,.int .i64 0,.string ⟨#[]⟩,.bool false,.string ⟨#[]⟩] 64);have hR:=bL.new (w.alloc (.cells #[.bool mA,.string (bs eX),.int .i64 port,.string (bs path),.bool asks,.string (bs cI)] 64)) 64 #[.bool false,.string ⟨#[]⟩,.int .i64 0,.string ⟨#[]⟩,.bool false,.string ⟨#[]⟩];have hB:=CU.alloc CU.size (.cells #[.bool false,.string ⟨#[]⟩,.int .i64 0,.string ⟨#[]⟩,.bool false,.string ⟨#[]⟩] 64);rw[size_alloc]at hR;go_enter func33,ntmps33;go_wp2_with fail;refine(mD s _ hs).mono ?_;rintro e w3 ⟨rfl,fm⟩;have hX3:=VH.below fm VH.lt;have hR3:=hR.below fm hR.lt;have Iv:=hB.trans (fm.mono hB.size);have HX:=bD hX3;have HR:=bD hR3;have HB:=bD Iv;clear hX3 hR3 Iv hX VH hR hB CU fm;generalize nH:w.heap.size=X at*;have gg:=bD nH;clear nH;have x0:=HX.o.cell 0;have x1:=HX.o.cell 1;have y0:=HX.o.frozen 0;have y1:=HX.o.frozen 1;go_upto_region 2 with(fail)
 clear x0 x1 y0 y1;obtain⟨w4,qn⟩:∃w4,w4=(w3.setCell ⟨X,0,none⟩ (.bool true)).setCell ⟨X,1,none⟩ (.string (bs (jJ (L s)))):=⟨_,rfl⟩;have nx:Hy (bL w4 X 64 #[.bool true,.string (bs (jJ (L s))),.int .i64 port,.string (bs path),.bool asks,.string (bs cI)]):=by rw[Hy,qn];exact(HX.o.cL 0 _).cL 1 _
 have iW:Hy (Below X w w4):=by rw[Hy,qn];exact(HB.o.setCell (p:=⟨X,0,none⟩) (dv _) _).setCell (p:=⟨X,1,none⟩) (dv _) _
 have CT:Hy (bL w4 (X+1) 64 #[.bool false,.string ⟨#[]⟩,.int .i64 0,.string ⟨#[]⟩,.bool false,.string ⟨#[]⟩]):=by
  rw[Hy,qn];exact(HR.o.gf (p:=⟨X,0,none⟩) (by show X+1≠X;omega) _).gf (p:=⟨X,1,none⟩) (by show X+1≠X;omega) _
 rw[<-qn];clear qn HX HB HR;go_wp2_with fail;refine(pO s 58 w4 hs).mono ?_;rintro e w5 ⟨rfl,rfl⟩;by_cases h0:dc 58 (L s)=0
 ·have j6:Hy (PF=(⟨true,jJ (L s),port,path,asks,cI⟩,true)):=by rw[Hy,HP.o,ae h0]
  rw[h0];have hz:(((0:Nat):Int)-1)=-1:=rfl;rw[hz];clear h0 HP hz;obtain⟨x0,x1,x2,x3,x4,x5⟩:=nB nx.o;obtain⟨r0,r1,r2,r3,r4,r5⟩:=nB CT.o;obtain⟨y0,y1,y2,y3,y4,y5⟩:=Nd CT.o;go_wp2_with fail;have hb:=kg CT.o ⟨true,jJ (L s),port,path,asks,cI⟩;have hl:=iF iW.o (show X<=X+1 by omega) ⟨true,jJ (L s),port,path,asks,cI⟩;clear x0 x1 x2 x3 x4 x5 r0 r1 r2 r3 r4 r5 y0 y1 y2 y3 y4 y5;change bodyPost _ _ _ _ _ (gP w4 (X+1) ⟨true,jJ (L s),port,path,asks,cI⟩);generalize gP w4 (X+1) ⟨true,jJ (L s),port,path,asks,cI⟩=W at*;refine ag (lS rfl rfl hb) rfl ⟨?_,by rw[gg.o];exact hl⟩;rw[j6.o];rfl
 ·obtain⟨i,hi⟩:∃i,dc 58 (L s)=i+1:=⟨dc 58 (L s)-1,by omega⟩;have hil:i<s.size:=by have h1:=Wn.o;have h2:=nF.o;omega
  rw[hi]at HP Wn|-;have hz:(((i+1:Nat):Int)-1)=(i:Int):=by omega
  rw[hz];have Gt:=bD (Fh (s.extract (i+1) s.size) w4 (by rw[aA];omega));have hex:L (s.extract (i+1) s.size)=(L s).drop (i+1):=by rw[dX,cm s,aM]
  rw[hex]at Gt;have SI:=bD (sy ((L s).drop (i+1)));obtain⟨n,bad,SJ⟩:∃n bad,cW ((L s).drop (i+1))=(n,bad):=⟨_,_,rfl⟩;rw[SJ]at Gt SI HP;simp only[Nat.add_sub_cancel]at HP;have j6:Hy (PF=(⟨true,(jJ (L s)).take i,(n:Int),path,asks,cI⟩,decide (bad=0)&&(decide (s.size-(i+1)<=5)&&decide (0<n)))):=by
   rw[Hy,HP.o,aa (by omega),nF.o]
  have MT:¬(i:Int)<0:=by omega
  have X9:(i:Int)<(s.size:Int):=by omega
  have hi2:(i:Int)+1<=(s.size:Int):=by omega
  have tQ:(n:Int)<=1099511627776:=by have:=SI.o;simp only at this;omega
  have hn0:(0:Int)<=(n:Int):=by omega
  have hll:(i:Int)<=((bs (jJ (L s))).size:Int):=by rw[bJ,QF.o,<-nF.o];omega
  have zX:(s.size:Int)<=1000000:=by omega
  clear h0 HP hz hex SJ hi;go_wp2_with fail;refine Gt.o.mono ?_;rintro e w6 ⟨rfl,rfl⟩;obtain⟨x0,x1,x2,x3,x4,x5⟩:=nB nx.o;have y1:=nx.o.frozen 1;have y2:=nx.o.frozen 2;go_upto_region 7 with(fail)
  clear x0 x1 x2 x3 x4 x5 y1 y2;obtain⟨w7,Cx⟩:∃w7,w7=(w4.setCell ⟨X,1,none⟩ (.string ((bs (jJ (L s))).extract 0 i))).setCell ⟨X,2,none⟩ (.int .i64 (n:Int)):=⟨_,rfl⟩;have ah4:(bs (jJ (L s))).extract 0 i=bs ((jJ (L s)).take i):=by rw[gW,bm]
  have PI:Hy (bL w7 X 64 #[.bool true,.string (bs ((jJ (L s)).take i)),.int .i64 (n:Int),.string (bs path),.bool asks,.string (bs cI)]):=by rw[Hy,Cx,ah4];exact(nx.o.cL 1 _).cL 2 _
  have Iw:Hy (Below X w w7):=by rw[Hy,Cx];exact(iW.o.setCell (p:=⟨X,1,none⟩) (dv _) _).setCell (p:=⟨X,2,none⟩) (dv _) _
  have HR7:Hy (bL w7 (X+1) 64 #[.bool false,.string ⟨#[]⟩,.int .i64 0,.string ⟨#[]⟩,.bool false,.string ⟨#[]⟩]):=by
   rw[Hy,Cx];exact(CT.o.gf (p:=⟨X,1,none⟩) (by show X+1≠X;omega) _).gf (p:=⟨X,2,none⟩) (by show X+1≠X;omega) _
  rw[<-Cx];clear Cx nx iW CT ah4;generalize(jJ (L s)).take i=H at*;have nx:=PI;have CT:=HR7;clear PI HR7;obtain⟨x0,x1,x2,x3,x4,x5⟩:=nB nx.o;obtain⟨r0,r1,r2,r3,r4,r5⟩:=nB CT.o;obtain⟨y0,y1,y2,y3,y4,y5⟩:=Nd CT.o;have hb:=bD (kg CT.o ⟨true,H,(n:Int),path,asks,cI⟩);have hl:=bD (iF Iw.o (show X<=X+1 by omega) ⟨true,H,(n:Int),path,asks,cI⟩);by_cases J2:bad=0
  ·have b1:(bad==0)=true:=by rw[J2];rfl
   by_cases h5:s.size-(i+1)<=5
   ·have b2:(s.size:Int)-(i:Int)-1<=5:=by omega
    by_cases hn:0<n
    ·have b3:(0:Int)<(n:Int):=by omega
     have zY:Hy (PF=(⟨true,H,(n:Int),path,asks,cI⟩,true)):=by rw[Hy,j6.o,aS J2,aS h5,aS hn];rfl
     go_wp2_with fail;clear x0 x1 x2 x3 x4 x5 r0 r1 r2 r3 r4 r5 y0 y1 y2 y3 y4 y5;change bodyPost _ _ _ _ _ (gP w7 (X+1) ⟨true,H,(n:Int),path,asks,cI⟩);generalize gP w7 (X+1) ⟨true,H,(n:Int),path,asks,cI⟩=W at*;refine ag (lS rfl rfl hb.out) rfl ⟨?_,by rw[gg.o];exact hl.out⟩;rw[zY.o];rfl
    ·have b3:¬(0:Int)<(n:Int):=by omega
     have zY:Hy (PF=(⟨true,H,(n:Int),path,asks,cI⟩,false)):=by rw[Hy,j6.o,aS J2,aS h5,aT hn];rfl
     go_wp2_with fail;clear x0 x1 x2 x3 x4 x5 r0 r1 r2 r3 r4 r5 y0 y1 y2 y3 y4 y5;change bodyPost _ _ _ _ _ (gP w7 (X+1) ⟨true,H,(n:Int),path,asks,cI⟩);generalize gP w7 (X+1) ⟨true,H,(n:Int),path,asks,cI⟩=W at*;refine ag (lS rfl rfl hb.out) rfl ⟨?_,by rw[gg.o];exact hl.out⟩;rw[zY.o];rfl
   ·have b2:¬(s.size:Int)-(i:Int)-1<=5:=by omega
    have zY:Hy (PF=(⟨true,H,(n:Int),path,asks,cI⟩,false)):=by rw[Hy,j6.o,aS J2,aT h5];rfl
    go_wp2_with fail;clear x0 x1 x2 x3 x4 x5 r0 r1 r2 r3 r4 r5 y0 y1 y2 y3 y4 y5;change bodyPost _ _ _ _ _ (gP w7 (X+1) ⟨true,H,(n:Int),path,asks,cI⟩);generalize gP w7 (X+1) ⟨true,H,(n:Int),path,asks,cI⟩=W at*;refine ag (lS rfl rfl hb.out) rfl ⟨?_,by rw[gg.o];exact hl.out⟩;rw[zY.o];rfl
  ·have b1:(bad==0)=false:=by rw[ai];exact J2
   have zY:Hy (PF=(⟨true,H,(n:Int),path,asks,cI⟩,false)):=by rw[Hy,j6.o,aT J2];rfl
   go_wp2_with fail;clear x0 x1 x2 x3 x4 x5 r0 r1 r2 r3 r4 r5 y0 y1 y2 y3 y4 y5;change bodyPost _ _ _ _ _ (gP w7 (X+1) ⟨true,H,(n:Int),path,asks,cI⟩);generalize gP w7 (X+1) ⟨true,H,(n:Int),path,asks,cI⟩=W at*;refine ag (lS rfl rfl hb.out) rfl ⟨?_,by rw[gg.o];exact hl.out⟩;rw[zY.o];rfl
theorem oh{w:World}{X:Nat}{tmps:Array Value}{u:eG}{b:Value}(h4:tmps[2]?.getD undef=.pointer (some ⟨X,0,none⟩))(h5:tmps[3]?.getD undef=b)(B0:bL w X 64 (ch u)):
 (results f20 tmps).run prog w=.ok (.tuple #[u.val,b]) w:=by
 obtain⟨a0,a1,a2,a3,a4,a5⟩:=nB B0;simp[ch]at a0 a1 a2 a3 a4 a5;simp[results,results20,go_sem,h4,h5,a0,a1,a2,a3,a4,a5,eG.val]
theorem je(s c:Bt):(Lib.cut s c).1.length<=s.length/\(Lib.cut s c).2.1.length<=s.length:=by
 unfold Lib.cut;split
 ·simp only[ay,aj];omega
 ·simp
theorem yq(s:Bt)(hs:s.length<=100000):(pN s fh).1.kB:=by
 have h1:=Kt s;have h2:=sy (s.drop (dc 58 s));unfold pN eG.kB;split
 ·simp only[fh,aD];omega
 ·simp only[fh,aD,ay];omega
theorem Bb{s:Bt}{u:eG}(hs:s.length<=100000)(h:u.kB):(wG s u).kB:=by
 obtain⟨h1,h2,h3,h4,h5⟩:=h;have:=je s [63];unfold wG eG.kB;simp only;omega
theorem nS:fh.kB:=by simp[eG.kB,fh]
theorem yr(s:ByteArray)(z:Int)(w:World)(hg:eK w)(rq:-1<=z)(vF:z+7<=s.size\/z<0)
 (ZF:∀W,Calls prog 32 #[.string (s.extract 7 s.size),.string ⟨#[47,63]⟩] W fun e W'=>e=.returned (.int .i64 z)/\Below W.heap.size W W'):
 Calls prog 20 #[.string s] w fun e w'=>e=.returned (.tuple #[(xj (L s) z).1.val,.int .i64 (xj (L s) z).2])/\Below w.heap.size w w':=by
 have nF:=bD (cm s);have HP:Hy (xj (L s) z=if 500<(L s).length then(fh,2)
  else if 7<=(L s).length/\jJ ((L s).take 7)=pk then
   ue (oS (((L s).drop 7).drop (if z<0 then((L s).drop 7).length else z.toNat))) (pN (((L s).drop 7).take (if z<0 then((L s).drop 7).length else z.toNat)) fh)
  else ue (L s) (fh,true)):=rfl
 generalize xj (L s) z=PF at*;have HI:=bD ZF;have J3:=bD hg;clear ZF hg;by_cases fH:500<s.size
 ·have tD:(500:Int)<(s.size:Int):=by omega
  have j6:Hy (PF=(fh,2)):=by rw[Hy,HP.o,ae (by rw[<-nF.o];exact fH)]
  clear HP fH;have hR:=bL.new w 64 (ch fh);have hB:Below w.heap.size w (w.alloc (.cells (ch fh) 64)):=cU _ _;have HR:=bD hR;have HB:=bD hB;clear hR hB;go_enter func20,ntmps20;go_wp2_with fail;refine ag (oh rfl rfl HR.o) rfl ⟨?_,HB.o⟩;rw[j6.o];rfl
 ·have tD:¬(500:Int)<(s.size:Int):=by omega
  have Wn:Hy (s.size<=500):=by rw[Hy];omega
  have j6:Hy (PF=if 7<=s.size/\jJ ((L s).take 7)=pk then
   ue (oS (((L s).drop 7).drop (if z<0 then((L s).drop 7).length else z.toNat))) (pN (((L s).drop 7).take (if z<0 then((L s).drop 7).length else z.toNat)) fh)
   else ue (L s) (fh,true)):=by rw[Hy,HP.o,aa (by rw[<-nF.o];exact fH),<-nF.o]
  clear HP fH;go_enter func20,ntmps20;go_upto_region 6 with(fail)
  have hR:=bL.new w 64 (ch fh);have hR1:=hR.alloc (.cells (ch fh) 64);have hU:=bL.new (w.alloc (.cells (ch fh) 64)) 64 (ch fh);have hB0:Below w.heap.size w (w.alloc (.cells (ch fh) 64)):=cU _ _;have hB:=hB0.alloc hB0.size (.cells (ch fh) 64);rw[size_alloc]at hU;have HR:=bD hR1;have HU:=bD hU;have HB:=bD hB;clear hR hR1 hU hB0 hB;obtain⟨w1,jz⟩:∃w1,w1=(w.alloc (.cells (ch fh) 64)).alloc (.cells (ch fh) 64):=⟨_,rfl⟩;rw[<-jz]at HR HU HB;change Code.wp _ _ _ _ ((w.alloc (.cells (ch fh) 64)).alloc (.cells (ch fh) 64));rw[<-jz];clear jz;have HG:=bD (J3.o.below HB.o);generalize nH:w.heap.size=X at*;have gg:=bD nH;clear nH;have HU:Hy (bL w1 (X+1) 64 (ch fh)):=HU;go_cut [21]from 12 to 22 (fun v wx=>v=.bool (decide (7<=s.size/\jJ ((L s).take 7)=pk))/\Hy (Below w1.heap.size w1 wx))
  case first=>
   by_cases h7:7<=s.size
   ·have h7i:(7:Int)<=(s.size:Int):=by omega
    have hex:L (s.extract 0 7)=(L s).take 7:=by rw[dX,bm]
    have HEX:=bD hex;clear hex;go_wp2_with fail;refine(Ks (s.extract 0 7) ⟨#[104,116,116,112,58,47,47]⟩ w1 (by rw[aA];omega) (by show 7<=1000000;omega)).mono ?_;rintro e w2 ⟨rfl,cu⟩;go_wp2_with fail;go_meet
    case rel=>
     refine⟨congrArg Value.bool ?_,cu⟩;rw[HEX.o,bj,beq_iff_eq,aH];exact⟨fun h=>⟨h7,h⟩,fun h=>h.2⟩
   ·have h7i:¬(7:Int)<=(s.size:Int):=by omega
    go_wp2_with fail;go_meet
    case rel=>exact⟨congrArg Value.bool (aT (fun h=>h7 h.1)).symm,aF _ _⟩
  case rest=>
   obtain⟨rfl,cu⟩:=hcut;obtain⟨w2,rfl⟩:∃w2:World,w2=wc:=⟨_,rfl⟩;have HU2:=bD (HU.o.below cu.out HU.o.lt);have gN:=bD (HR.o.below cu.out HR.o.lt);have dm:=bD (HB.o.trans (cu.out.mono (by have:=HB.o.size;rw[gg.o]at this;exact this)));have nQ:=bD (HG.o.below cu.out);clear cu HU HR HB HG;generalize hc:decide (7<=s.size/\jJ ((L s).take 7)=pk)=c;have HC:=bD hc;clear hc;go_upto_if 21 with(fail)
   go_cut [0,5,7]from 22 to 51 (fun sv iv _ wx=>∃(r:ByteArray) (u:eG) (b:Bool),sv=.string r/\iv=.bool b/\Hy (PF=ue (L r) (u,b))/\Hy u.kB/\r.size<=1000/\
    Hy (bL wx (X+1) 64 (ch u))/\Hy (bL wx X 64 (ch fh))/\Hy (Below X w wx))
   case first=>
    cases c with
    |false=>
     have zY:Hy (PF=ue (L s) (fh,true)):=by rw[Hy,j6.o,aa (of_decide_eq_false HC.o)]
     go_wp2_with fail;go_meet
     case rel=>exact⟨s,fh,true,rfl,rfl,zY.o,nS,by have:=Wn.o;omega,HU2.o,gN.o,dm.o⟩
    |true=>
     have h7:=(of_decide_eq_true HC.o).1;have zY:Hy (PF=ue (oS (((L s).drop 7).drop (if z<0 then((L s).drop 7).length else z.toNat))) (pN (((L s).drop 7).take (if z<0 then((L s).drop 7).length else z.toNat)) fh)):=by
      rw[Hy,j6.o,ae (of_decide_eq_true HC.o)]
     have rB:L (s.extract 7 s.size)=(L s).drop 7:=by rw[dX,cm s,aM]
     have hrs:(s.extract 7 s.size).size=s.size-7:=by rw[aA];omega
     rw[<-rB]at zY;have h7i:(7:Int)<=(s.size:Int):=by omega
     have hs5:(s.size:Int)<=500:=by have:=Wn.o;omega
     have Is:Hy ((s.extract 7 s.size).size<=500):=by have:=Wn.o;rw[Hy,hrs];omega
     have gu:Hy (z<=((s.extract 7 s.size).size:Int)):=by rw[Hy,hrs];omega
     clear hrs rB j6 HC;go_wp2_with fail;refine(HI.o w2).mono ?_;rintro e w3 ⟨rfl,fm⟩;have PJ:=bD (HU2.o.below fm HU2.o.lt);have yp:=bD (gN.o.below fm gN.o.lt);have gI:=bD (dm.o.trans (fm.mono (by have:=dm.o.size;rw[gg.o]at this;exact this)));clear fm HU2 gN dm HI;generalize s.extract 7 s.size=r0 at*;have Tp:=bD (cm r0);go_upto_if 28 with(fail)
     go_cut [7]from 28 to 31 (fun v wx=>∃n:Nat,v=.int .i64 n/\n<=r0.size/\Hy (n=if z<0 then(L r0).length else z.toNat)/\wx=w3)
     case first=>
      by_cases hz:z<0
      ·have hzb:decide (z<0)=true:=aS hz;go_wp2_with fail;go_meet
       case rel=>exact⟨r0.size,rfl,dv _,by rw[Hy,ae hz];exact Tp.o,rfl⟩
      ·have hzb:decide (z<0)=false:=aT hz;go_wp2_with fail;go_meet
       case rel=>exact⟨z.toNat,congrArg (Value.int .i64) (by omega),by have:=gu.o;omega,by rw[Hy,aa (by omega)],rfl⟩
     case rest=>
      obtain⟨n,rfl,hn,HN,ZG⟩:=hcut;have ZG:=ZG.symm;subst ZG;have hni:(n:Int)<=(r0.size:Int):=by omega
      have Fi:=bD (fun W=>Ku (r0.extract 0 n) fh (by have:=Is.o;rw[aA];omega) W);have VI:L (r0.extract 0 n)=(L r0).take n:=by rw[dX,bm]
      rw[VI]at Fi;have hsm:=yq ((L r0).take n) (by have:=Is.o;have:=Tp.o;rw[ay];omega);rw[<-HN.o]at zY;obtain⟨u,b,hub⟩:∃u b,pN ((L r0).take n) fh=(u,b):=⟨_,_,rfl⟩;rw[hub]at Fi hsm zY;have QG:=bD hsm;clear VI hsm hub;have u0:w3.cell? ⟨X+1,0,none⟩=some (.bool false):=PJ.o.cell 0;have u1:w3.cell? ⟨X+1,1,none⟩=some (.string ⟨#[]⟩):=PJ.o.cell 1;have u2:w3.cell? ⟨X+1,2,none⟩=some (.int .i64 0):=PJ.o.cell 2;have u3:w3.cell? ⟨X+1,3,none⟩=some (.string ⟨#[]⟩):=PJ.o.cell 3;have u4:w3.cell? ⟨X+1,4,none⟩=some (.bool false):=PJ.o.cell 4;have u5:w3.cell? ⟨X+1,5,none⟩=some (.string ⟨#[]⟩):=PJ.o.cell 5;go_upto_region 11 with(fail)
      refine wp_region_any (by kernel_rfl) ?_;change wpAny _ _ _ _ _ _ _ (World.drew _);refine xe 0 ?_;refine xe 1 ?_;refine xe 2 ?_;refine wpAny_ready (rs:=[3]) (by kernel_rfl) (by simp) ?_;refine AllReady.cons rfl (fun K_ bP=>?_) AllReady.nil;go_simp;refine bP _ _ ?_;clear bP K_ u0 u1 u2 u3 u4 u5;refine wpAny_ready (rs:=[4]) (by kernel_rfl) (by simp) ?_;refine AllReady.cons rfl (fun K_ bP=>?_) AllReady.nil;go_simp;refine(Fi.o _).mono ?_;rintro e w5 ⟨rfl,kM⟩;have kM:Below w3.heap.size w3 w5:=(aF _ _).drew.trans kM;have MV:=bD (PJ.o.below kM PJ.o.lt);have pA:=bD (yp.o.below kM yp.o.lt);have kf:=bD (gI.o.trans (kM.mono (by have:=gI.o.size;rw[gg.o]at this;exact this)));clear kM PJ yp gI Fi;refine bP _ _ ?_;clear bP K_;simp only[eG.val];have u0:w5.cell? ⟨X+1,0,none⟩=some (.bool false):=MV.o.cell 0;have u1:w5.cell? ⟨X+1,1,none⟩=some (.string ⟨#[]⟩):=MV.o.cell 1;have u2:w5.cell? ⟨X+1,2,none⟩=some (.int .i64 0):=MV.o.cell 2;have u3:w5.cell? ⟨X+1,3,none⟩=some (.string ⟨#[]⟩):=MV.o.cell 3;have u4:w5.cell? ⟨X+1,4,none⟩=some (.bool false):=MV.o.cell 4;have u5:w5.cell? ⟨X+1,5,none⟩=some (.string ⟨#[]⟩):=MV.o.cell 5;obtain⟨f0,f1,f2,f3,f4,f5⟩:=Nd MV.o;refine xe 5 ?_;refine xe 6 ?_;refine xe 7 ?_;refine wpAny_ready (rs:=[8]) (by kernel_rfl) (by simp) ?_;refine AllReady.cons rfl (fun K_ bP=>?_) AllReady.nil;go_simp;refine bP _ _ ?_;clear bP K_;refine xe 9 ?_;refine wpAny_done (by kernel_rfl) ?_ _;go_simp;go_upto_region 13 with(fail)
      have HU6:=bD (kg MV.o u);have HR6:=bD (Gs pA.o (show X≠X+1 by omega) u);have tR:=bD (iF kf.o (show X<=X+1 by omega) u);clear u0 u1 u2 u3 u4 u5 f0 f1 f2 f3 f4 f5 MV pA kf;change Code.wp _ _ _ _ (gP w5 (X+1) u);generalize gP w5 (X+1) u=w6 at*;have Kv:L (r0.extract n r0.size)=(L r0).drop n:=by rw[dX,cm r0,aM]
      have aC1:(r0.extract n r0.size).size<=500:=by have:=Is.o;rw[aA];omega
      generalize r0.extract n r0.size=r1 at*;rw[<-Kv]at zY;have Cy:=bD Kv;have tD:=cm r1;have Ff:(⟨#[47]⟩:ByteArray).size+r1.size<=1000:=by show 1+r1.size<=1000;omega
      have Ya:L ((⟨#[47]⟩:ByteArray)++r1)=47::L r1:=by rw[ow];rfl
      have ZH:=bD Ya;have HAD:=bD Ff;clear Kv Ya;cases hq:L r1 with
      |nil=>
       have e1:r1.toList=[]:=by rw[cw];exact hq
       have e2:r1.toList.isEmpty=true:=by rw[e1];rfl
       have mM:Hy (oS (L r1)=47::L r1):=by rw[Hy,oS,ae (.inl hq)]
       clear hq tD;go_wp2_with fail;go_meet
       case rel=>exact⟨(⟨#[47]⟩:ByteArray)++r1,u,b,rfl,rfl,by rw[Hy,zY.o,mM.o,ZH.o],QG.o,by have:=HAD.o;rw[aP];exact this,HU6.o,HR6.o,tR.o⟩
      |cons c l=>
       have e1:¬r1.toList=[]:=by rw[cw,hq];simp
       have e2:r1.toList.isEmpty=false:=by rw[cw,hq];rfl
       rw[hq,ak]at tD;have CQ:(0:Int)<(r1.size:Int):=by omega
       have MU:0<r1.size:=by omega
       have Bc:r1[0]=c:=by rw[dP r1 0 MU];simp[hq]
       by_cases Fg:c=63
       ·have b63:((r1[0].toNat:Int)==63)=true:=by rw[Bc,Fg];rfl
        have mM:Hy (oS (L r1)=47::L r1):=by rw[Hy,oS,ae (.inr (by rw[hq,Fg];rfl))]
        clear hq tD Bc Fg;go_wp2_with fail;go_meet
        case rel=>exact⟨(⟨#[47]⟩:ByteArray)++r1,u,b,rfl,rfl,by rw[Hy,zY.o,mM.o,ZH.o],QG.o,by have:=HAD.o;rw[aP];exact this,HU6.o,HR6.o,tR.o⟩
       ·have b63:((r1[0].toNat:Int)==63)=false:=by rw[Bc,ai];exact fun e=>Fg ((mQ c 63).2 e)
        have mM:Hy (oS (L r1)=L r1):=by rw[Hy,oS,aa (by rw[hq];simp;exact Fg)]
        clear hq tD Bc Fg;go_wp2_with fail;go_meet
        case rel=>exact⟨r1,u,b,rfl,rfl,by rw[Hy,zY.o,mM.o],QG.o,by omega,HU6.o,HR6.o,tR.o⟩
   case rest=>
    obtain⟨r,u,b,rfl,rfl,HPF,QG,aC2,PJ,yp,gI⟩:=hcut;obtain⟨w3,rfl⟩:∃w3:World,w3=wc:=⟨_,rfl⟩;have pa:Hy (eK w3):=by
     have:=gI.o;rw[<-gg.o]at this;exact J3.o.below this
    clear HU2 gN dm nQ HI j6 HC;have Tp:Hy ((L r).length<=100000):=by rw[Hy,<-cm];omega
    obtain⟨u0,u1,u2,u3,u4,u5⟩:=nB PJ.o;simp[ch]at u0 u1 u2 u3 u4 u5;go_wp2_with fail;refine(Nk r u (by omega) w3 pa.out).mono ?_;rintro e w4 ⟨rfl,eY⟩;have HU4:=bD (PJ.o.below eY PJ.o.lt);have CT:=bD (yp.o.below eY yp.o.lt);have iW:=bD (gI.o.trans (eY.mono (by have:=gI.o.size;rw[gg.o]at this;exact this)));clear eY PJ yp gI u0 u1 u2 u3 u4 u5;have ar5:=bD (Bb Tp.o QG.o);have Nj:Hy (PF=if b=true/\gp (wG (L r) u)=true then(wG (L r) u,0)else(fh,20)):=HPF;generalize wG (L r) u=v at*;obtain⟨u0,u1,u2,u3,u4,u5⟩:=nB HU4.o;obtain⟨f0,f1,f2,f3,f4,f5⟩:=Nd HU4.o;simp[ch]at u0 u1 u2 u3 u4 u5;simp only[eG.val];go_upto_region 16 with(fail)
    have MV:=bD (kg HU4.o v);have pA:=bD (Gs CT.o (show X≠X+1 by omega) v);have kf:=bD (iF iW.o (show X<=X+1 by omega) v);clear u0 u1 u2 u3 u4 u5 f0 f1 f2 f3 f4 f5 HU4 CT iW;change Code.wp _ _ _ _ (gP w4 (X+1) v);generalize gP w4 (X+1) v=w5 at*;have zS:Hy (eK w5):=by
     have:=kf.o;rw[<-gg.o]at this;exact J3.o.below this
    cases b with
    |false=>
     have qq:Hy (PF=(fh,20)):=by rw[Hy,Nj.o,aa (by simp)]
     obtain⟨r0,r1,r2,r3,r4,r5⟩:=nB pA.o;simp[ch]at r0 r1 r2 r3 r4 r5;obtain⟨f0,f1,f2,f3,f4,f5⟩:=Nd pA.o;go_wp2_with fail;have hb:=kg pA.o fh;have hl:=iF kf.o (dv X) fh;change bodyPost _ _ _ _ _ (gP w5 X fh);generalize gP w5 X fh=W at*;refine ag (oh rfl rfl hb) rfl ⟨?_,by rw[gg.o];exact hl⟩;rw[qq.o];rfl
    |true=>
     obtain⟨u0,u1,u2,u3,u4,u5⟩:=nB MV.o;simp[ch]at u0 u1 u2 u3 u4 u5;go_wp2_with fail;refine(mU v ar5.o w5 zS.out).mono ?_;rintro e w6 ⟨rfl,mo⟩;have hu6:=MV.o.below mo MV.o.lt;have hr6:=pA.o.below mo pA.o.lt;have ah5:=kf.o.trans (mo.mono (by have:=kf.o.size;rw[gg.o]at this;exact this));clear MV pA kf mo u0 u1 u2 u3 u4 u5;have MV:=bD hu6;have pA:=bD hr6;have kf:=bD ah5;clear hu6 hr6 ah5;cases po:gp v with
     |false=>
      have qq:Hy (PF=(fh,20)):=by rw[Hy,Nj.o,aa (by rw[po];simp)]
      obtain⟨r0,r1,r2,r3,r4,r5⟩:=nB pA.o;simp[ch]at r0 r1 r2 r3 r4 r5;obtain⟨f0,f1,f2,f3,f4,f5⟩:=Nd pA.o;go_wp2_with fail;have hb:=kg pA.o fh;have hl:=iF kf.o (dv X) fh;change bodyPost _ _ _ _ _ (gP w6 X fh);generalize gP w6 X fh=W at*;refine ag (oh rfl rfl hb) rfl ⟨?_,by rw[gg.o];exact hl⟩;rw[qq.o];rfl
     |true=>
      have qq:Hy (PF=(v,0)):=by rw[Hy,Nj.o,ae (by simp[po])]
      obtain⟨u0,u1,u2,u3,u4,u5⟩:=nB MV.o;simp[ch]at u0 u1 u2 u3 u4 u5;obtain⟨r0,r1,r2,r3,r4,r5⟩:=nB pA.o;simp[ch]at r0 r1 r2 r3 r4 r5;obtain⟨f0,f1,f2,f3,f4,f5⟩:=Nd pA.o;go_wp2_with fail;have hb:=kg pA.o v;have hl:=iF kf.o (dv X) v;change bodyPost _ _ _ _ _ (gP w6 X v);generalize gP w6 X v=W at*;refine ag (oh rfl rfl hb) rfl ⟨?_,by rw[gg.o];exact hl⟩;rw[qq.o];rfl
theorem LA(c:UInt8)(w:World):Calls prog 247 #[.int .u8 c.toNat] w fun e w'=>e=.returned (.int .i64 (((c-48).toNat:Nat):Int))/\w=w':=by
 have hv:(c-48).toNat=(c.toNat+208)%256:=by rw[UInt8.toNat_sub];show(256-48+c.toNat)%256=_;omega
 have HV:=bD hv;have hc:=UInt8.toNat_lt c;by_cases h:48<=c.toNat
 ·have h1:(48:Int)<=(c.toNat:Int):=by omega
  have zF:(((c-48).toNat:Nat):Int)=(c.toNat:Int)-48:=by omega
  have eA:=bD zF;clear hv zF;go_enter func247,ntmps247;go_wp2_with fail;go_ret;exact⟨by rw[eA.o];rfl,rfl⟩
 ·have hw:IntKind.u8.wrap ((c.toNat:Int)-48)=(c.toNat:Int)+208:=by rw[IntKind.wrap_u8];omega
  have zF:(((c-48).toNat:Nat):Int)=(c.toNat:Int)+208:=by omega
  have eA:=bD zF;clear hv zF;go_enter func247,ntmps247;go_wp2_with fail;go_ret;exact⟨by rw[eA.o];rfl,rfl⟩
theorem FO(s:ByteArray)(w:World)(hs:s.size<=1000000):Calls prog 246 #[.string s,.int .i64 10,.func (.func 247) #[] #[]] w fun e w'=>
 e=.returned (.tuple #[.int .i64 ((cW (L s)).1:Int),.int .i64 (cW (L s)).2])/\w=w':=by
 have mC:=cm s;by_cases h0:s.size=0
 ·have HN:Hy (cW (L s)=(0,10)):=by rw[Hy,cW,ae (bd (by omega))]
  have he:s.toList.isEmpty=true:=by rw[cw,bd (show(L s).length=0 by omega)];rfl
  have Iq:s.toList=[]:=by rw[cw];exact bd (by omega)
  clear mC;go_enter func246,ntmps246;go_wp2_with fail;go_ret2;exact⟨by rw[HN.o];rfl,rfl⟩
 ·have HN:Hy (cW (L s)=vG (di (L s) 0 false)):=by
   rw[Hy,cW,aa (fun e=>h0 (by rw[mC,e];rfl))]
  have he:s.toList.isEmpty=false:=by rw[cw];cases h:L s with|nil=>rw[h]at mC;exact aX mC h0|cons _ _=>rfl
  have Iq:¬s.toList=[]:=by rw[cw];intro e;rw[e]at mC;exact h0 mC
  have nF:=bD mC;clear mC h0;go_enter func246,ntmps246;go_wp2_with fail;go_loopw [8,9,10,11,17] (fun nv bv _ _ i wr=>∃(k n:Nat) (b:Bool),k<=s.size/\i=.int .i64 k/\nv=.int .i64 n/\bv=.bool b/\n<=1099511627776/\Hy (di (L s) 0 false=di ((L s).drop k) n b)/\Hy (wr=w))
   (fun _ _ _ _ i wr=>s.size-(intOf i).toNat)
  case atStart=>exact⟨0,0,false,ax _,rfl,rfl,rfl,by omega,by rw[bm];rfl,rfl⟩
  case round=>
   obtain⟨k,n,b,hk,rfl,rfl,rfl,hn,HO,HW⟩:=hrel;obtain rfl:=HW.o;clear HW;by_cases bW:k<s.size
   ·have nE:(0:Int)<=(k:Int):=by omega
    have fA:(k:Int)<(s.size:Int):=by omega
    have HC:Hy (di (L s) 0 false=if Il s[k]then(if n*10+(s[k].toNat-48)<=1099511627776 then di ((L s).drop (k+1)) (n*10+(s[k].toNat-48)) b else di ((L s).drop (k+1)) 0 true)else none):=by
     rw[Hy,HO.o,aE (by rw[<-cm];exact bW),qQ,<-dP s k bW]
    obtain⟨d1,d2⟩:=PG s[k];have HD:=bD (LA s[k]);generalize(s[k]-48).toNat=d at*;cases hd:Il s[k]with
    |true=>
     have hd9:d<10:=by rw[hd]at d1;exact of_decide_eq_true d1.symm
     have hde:=d2 hd;have J1:Hy (di (L s) 0 false=if n*10+d<=1099511627776 then di ((L s).drop (k+1)) (n*10+d) b else di ((L s).drop (k+1)) 0 true):=by
      rw[Hy,HC.o,ae hd,hde]
     have ZC:¬(10:Int)<=(d:Int):=by omega
     clear hde d1 d2 hd HC HO;by_cases hb:n*10+d<=1099511627776
     ·have QD:Hy (di (L s) 0 false=di ((L s).drop (k+1)) (n*10+d) b):=by rw[Hy,J1.o,ae hb]
      have cu:¬(1099511627776:Int)<(n:Int)*10+(d:Int):=by omega
      clear J1;go_wp2_with fail;refine(HD.o _).mono ?_;rintro e w2 ⟨rfl,rfl⟩;go_wp2_with fail;go_roundw
      case rel=>exact⟨k+1,n*10+d,b,bW,by go_num,by go_num,rfl,hb,QD.o,(by first|exact trivial|exact rfl)⟩
      case measure=>simp[intOf];omega
     ·have QD:Hy (di (L s) 0 false=di ((L s).drop (k+1)) 0 true):=by rw[Hy,J1.o,aa hb]
      have cu:(1099511627776:Int)<(n:Int)*10+(d:Int):=by omega
      clear J1;go_wp2_with fail;refine(HD.o _).mono ?_;rintro e w2 ⟨rfl,rfl⟩;go_wp2_with fail;go_roundw
      case rel=>exact⟨k+1,0,true,bW,by go_num,rfl,rfl,by omega,QD.o,(by first|exact trivial|exact rfl)⟩
      case measure=>simp[intOf];omega
    |false=>
     have ZC:(10:Int)<=(d:Int):=by rw[hd]at d1;have:=of_decide_eq_false d1.symm;omega
     have HF:Hy (cW (L s)=(0,10)):=by rw[Hy,HN.o,HC.o,aa (by rw[hd];simp)];rfl
     clear d1 d2 hd HC HO;go_wp2_with fail;refine(HD.o _).mono ?_;rintro e w2 ⟨rfl,rfl⟩;go_wp2_with fail;go_ret2;exact⟨by rw[HF.o];rfl,rfl⟩
   ·have ln:k=s.size:=by omega
    have HF:Hy (cW (L s)=if b then(0,2)else(n,0)):=by
     rw[Hy,HN.o,HO.o,ln,nF.o,bu,di];rfl
    subst ln;clear HO;cases b with
    |true=>
     go_wp2_with fail;go_ret2;exact⟨by rw[HF.o];rfl,rfl⟩
    |false=>
     go_wp2_with fail;go_ret2;exact⟨by rw[HF.o];rfl,rfl⟩
def fa(s:Bt):Int × Int:=(if(eI s [45]).2 then -((cW (eI s [45]).1).1:Int)else((cW (eI s [45]).1).1:Int),(cW (eI s [45]).1).2)
theorem sP(s:ByteArray)(w:World)(hs:s.size<=1000000):Calls prog 235 #[.string s] w fun e w'=>
 e=.returned (.tuple #[.int .i64 (fa (L s)).1,.int .i64 (fa (L s)).2])/\w=w':=by
 have HC:=bD (jd s ⟨#[45]⟩ w);rw[show L (⟨#[45]⟩:ByteArray)=[45]from rfl]at HC;have HF:Hy (fa (L s)=(if(eI (L s) [45]).2 then -((cW (eI (L s) [45]).1).1:Int)else((cW (eI (L s) [45]).1).1:Int),(cW (eI (L s) [45]).1).2)):=rfl;have hn:=sy (eI (L s) [45]).1;have wv:(eI (L s) [45]).1.length<=(L s).length:=by
  unfold eI;split
  ·simp
  ·exact dv _
 generalize fa (L s)=SF at*;generalize eI (L s) [45]=CP at*;obtain⟨r,b⟩:=CP;simp only at HC HF hn wv;have HR:=bD (FO (bs r) w (by rw[bJ];rw[<-cm]at wv;omega));rw[eB]at HR;generalize cW r=RD at*;obtain⟨n,er⟩:=RD;simp only at HR HF hn;have tQ:(n:Int)<=1099511627776:=by omega
 have Ix:IntKind.i64.wrap (-(n:Int))=-(n:Int):=aI _ (by omega);clear wv hn;cases b with
 |true=>
  have HV:Hy (SF=(-(n:Int),er)):=by rw[Hy,HF.o];rfl
  go_enter func235,ntmps235;go_wp2_with fail;refine HC.o.mono ?_;rintro e w2 ⟨rfl,rfl⟩;go_wp2_with fail;refine HR.o.mono ?_;rintro e w2 ⟨rfl,rfl⟩;go_wp2_with fail;go_ret2;exact⟨by rw[HV.o];rfl,rfl⟩
 |false=>
  have HV:Hy (SF=((n:Int),er)):=by rw[Hy,HF.o];rfl
  go_enter func235,ntmps235;go_wp2_with fail;refine HC.o.mono ?_;rintro e w2 ⟨rfl,rfl⟩;go_wp2_with fail;refine HR.o.mono ?_;rintro e w2 ⟨rfl,rfl⟩;go_wp2_with fail;go_ret2;exact⟨by rw[HV.o];rfl,rfl⟩
end Go.Proofs.YtejafaaihodehaaGreatDoor
