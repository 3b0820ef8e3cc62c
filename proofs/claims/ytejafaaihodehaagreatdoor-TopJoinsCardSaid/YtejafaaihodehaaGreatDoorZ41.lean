/- Part 41. -/
import Derived.Test.YtejafaaihodehaaGreatDoorZ17
import Derived.Test.YtejafaaihodehaaGreatDoorZ37
set_option linter.all false
set_option maxRecDepth 100000
set_option maxHeartbeats 8000000
namespace Go.Proofs.YtejafaaihodehaaGreatDoor
open Go Go.RowKit Tryz
inductive Ex where
 |mk (kind n:Int) (text iD:Bt) (bE:List Ex)
namespace Ex
def kind:Ex->Int|.mk k _ _ _ _=>k
def n:Ex->Int|.mk _ n _ _ _=>n
def text:Ex->Bt|.mk _ _ t _ _=>t
def iD:Ex->Bt|.mk _ _ _ s _=>s
def bE:Ex->List Ex|.mk _ _ _ _ l=>l
end Ex
mutual
def Ex.gv:Ex->GV|.mk k n t s l=>.agg [.int k,.int n,.str t,.str s,.row 5 (LL l)]
def LL:List Ex->List GV|[]=>[]|e::l=>e.gv::LL l
end
theorem DP:∀l:List Ex,LL l=l.map Ex.gv
 |[]=>by simp[LL]
 |e::l=>by simp only[LL,List.map_cons,DP l]
def kH:Ex:=.mk 0 0 [] [] []
def bH(x:Ex)(kv:Value):List Value:=[.int .i64 x.kind,.int .i64 x.n,.string (bs x.text),.string (bs x.iD),kv]
def da(x:Ex)(kv:Value):Value:=.agg (bH x kv).toArray
theorem LM{w:World}{F:Nat->Prop}{e:Ex}{cs:List Value}(h:GR w F e.gv cs):∃A c,cs=bH e (.slice A e.bE.length c)/\GR w F (.row 5 (e.bE.map Ex.gv)) [.slice A e.bE.length c]:=by
 obtain⟨k,n,tx,s,l⟩:=e;rw[Ex.gv,DP]at h;obtain⟨x0,y0,rfl,h0,g0⟩:=cd.1 (nN.1 h);obtain⟨x1,y1,rfl,h1,g1⟩:=cd.1 g0;obtain⟨x2,y2,rfl,h2,g2⟩:=cd.1 g1;obtain⟨x3,y3,rfl,h3,g3⟩:=cd.1 g2;obtain⟨x6,y6,rfl,h6,g6⟩:=cd.1 g3;rw[lK]at h0 h1;rw[eQ]at h2 h3;rw[ma]at g6;subst h0 h1 h2 h3 g6;obtain⟨A,c,xs,h7,h8⟩:=jR.1 h6;rw[ah]at h7;subst h7;exact⟨A,c,rfl,h6⟩
theorem rO{w:World}{F:Nat->Prop}{e:Ex}{kv:Value}(h:GR w F (.row 5 (e.bE.map Ex.gv)) [kv]):GR w F e.gv (bH e kv):=by
 obtain⟨k,n,tx,s,l⟩:=e;rw[Ex.gv,DP];exact nN.2 (cd.2 ⟨[_],_,rfl,lK.2 rfl,cd.2 ⟨[_],_,rfl,lK.2 rfl,cd.2 ⟨[_],_,rfl,eQ.2 rfl,cd.2 ⟨[_],_,rfl,eQ.2 rfl,cd.2 ⟨[kv],[],rfl,h,ma.2 rfl⟩⟩⟩⟩⟩)
structure Xs(w:World)(F:Nat->Prop)(b o:Nat)(e:Ex)(A:Option Addr)(c:Nat):Prop where
 c0:w.cell? ⟨b,o,none⟩=some (.int .i64 e.kind)
 c1:w.cell? ⟨b,o+1,none⟩=some (.int .i64 e.n)
 c2:w.cell? ⟨b,o+2,none⟩=some (.string (bs e.text))
 c3:w.cell? ⟨b,o+3,none⟩=some (.string (bs e.iD))
 c4:w.cell? ⟨b,o+4,none⟩=some (.slice A e.bE.length c)
 bE:GR w F (.row 5 (e.bE.map Ex.gv)) [.slice A e.bE.length c]
theorem nf{w:World}{F:Nat->Prop}{l:List Ex}{v:Value}(h:GR w F (.row 5 (l.map Ex.gv)) [v]):
 ∃A c,v=.slice A l.length c/\l.length<=c/\c<=maxLen/\(l≠[]->∃b o,A=some ⟨b,o,none⟩/\F b/\∀i (hi:i<l.length),∃A' c',Xs w F b (o+i*5) l[i] A' c'):=by
 obtain⟨A,c,h1,h2,h3,h4⟩:=pK h (by omega);simp only[ah]at h1 h2 h4;refine⟨A,c,h1,h2,h3,fun db=>?_⟩;obtain⟨b,o,hA,hF,hc⟩:=h4 (by simpa using db);refine⟨b,o,hA,hF,fun i hi=>?_⟩;obtain⟨cs,g1,_,g3⟩:=hc i hi;rw[List.getElem_map]at g1;obtain⟨A',c',rfl,hk⟩:=LM g1;exact⟨A',c',g3 0 _ rfl,g3 1 _ rfl,g3 2 _ rfl,g3 3 _ rfl,g3 4 _ rfl,hk⟩
theorem Xs.below{w w':World}{F:Nat->Prop}{b o:Nat}{e:Ex}{A:Option Addr}{c:Nat}(h:Xs w F b o e A c)(hb:Below w.heap.size w w')(bW:b<w.heap.size):Xs w' F b o e A c:=
 ⟨(hb.cell (p:=⟨b,o,none⟩) bW).trans h.c0,(hb.cell (p:=⟨b,o+1,none⟩) bW).trans h.c1,(hb.cell (p:=⟨b,o+2,none⟩) bW).trans h.c2,(hb.cell (p:=⟨b,o+3,none⟩) bW).trans h.c3,
  (hb.cell (p:=⟨b,o+4,none⟩) bW).trans h.c4,h.bE.below hb⟩
theorem ab1:kJ prog 200 202 5 72:=by
 obtain⟨i0,hi,zR,rq,vF⟩:=qF (show(prog.info? 202).map (fun i=>(i.zero,i.size,i.bytes))=some (some (.agg #[.int .i64 0,.int .i64 0,.string ⟨#[]⟩,.string ⟨#[]⟩,.slice none 0 0]),5,72) by kernel_rfl);exact⟨i0,_,underlying200,hi,zR,rq,vF,rfl,by omega⟩
abbrev PZ:=Ex × Bt × Bool
def Xt:Bt:=[32,9,10,13]
def wS:Bt:=[48,49,50,51,52,53,54,55,56,57]
def jY(s:Bt):Bt:=Lib.trimLeftS s Xt
def dj(m s:Bt):Bt × Bool:=eI (jY s) m
def lU:PZ:=(kH,[],true)
def RJ(val:nK)(s:Bt)(b:Bool):PZ:=
 if(fa (s.take (s.length-(Lib.trimLeftS (Lib.trimPrefix s [45]) wS).length))).2≠0 then lU
 else(.mk 1 (fa (s.take (s.length-(Lib.trimLeftS (Lib.trimPrefix s [45]) wS).length))).1 [] [] [],Lib.trimLeftS (Lib.trimPrefix s [45]) wS,b)
def BE(val:nK)(s:Bt)(b:Bool):PZ:=
 if Lib.hasPrefix s [39]then
  if(Lib.cut (s.drop 1) [39]).2.2 then(.mk 2 0 (Lib.cut (s.drop 1) [39]).1 [] [],(Lib.cut (s.drop 1) [39]).2.1,b)else lU
 else if 0<(j9 val s).2 then(.mk 3 0 (s.take (j9 val s).2) [] [],s.drop (j9 val s).2,b)
 else RJ val s b
def iX(val:nK)(s:Bt)(b:Bool):PZ:=BE val (jY s) b
def eL:List Bt:=[[61,61],[33,61],[60,61],[62,61],[60],[62]]
def ja:List Bt->Bt->Bt × Bt
 |[],s=>([],s)
 |m::l,s=>if(dj m s).2 then(m,(dj m s).1)else ja l (dj m s).1
def iS(one:Bt->Bool->PZ)(m:Bt):Nat->List Ex->Bt->Bool->List Ex × Bt × Bool
 |0,l,s,b=>(l,s,b)
 |n+1,l,s,b=>if(dj m s).2 then iS one m n (l++[(one (dj m s).1 b).1]) (one (dj m s).1 b).2.1 (one (dj m s).1 b).2.2 else(l,(dj m s).1,b)
def DQ(k:Int)(l:List Ex):Ex:=match l with
 |[x]=>x
 |l=>.mk k 0 [] [] l
def mw(k:Int)(m:Bt)(one:Bt->Bool->PZ)(s:Bt)(b:Bool):PZ:=
 (DQ k (iS one m (s.length+1) [(one s b).1] (one s b).2.1 (one s b).2.2).1,(iS one m (s.length+1) [(one s b).1] (one s b).2.1 (one s b).2.2).2)
def Co(one:Bt->Bool->PZ):Bt->Bool->PZ:=mw 6 [124] (mw 5 [38] one)
def yZ(val:nK)(a:PZ):PZ:=
 if(ja eL a.2.1).1=[]then(a.1,(ja eL a.2.1).2,a.2.2)
 else(.mk 7 0 [] (ja eL a.2.1).1 [a.1,(iX val (ja eL a.2.1).2 a.2.2).1],(iX val (ja eL a.2.1).2 a.2.2).2)
def uR(z:PZ):PZ:=if(dj [41] z.2.1).2 then(z.1,(dj [41] z.2.1).1,z.2.2)else lU
def oY(val:nK):Nat->Bt->Bool->PZ
 |0,s,b=>(kH,s,b)
 |n+1,s,b=>
  if b then(kH,s,b)
  else if(dj [33] s).2 then(.mk 4 0 [] [] [(oY val n (dj [33] s).1 b).1],(oY val n (dj [33] s).1 b).2)
  else if(dj [40] (dj [33] s).1).2 then uR (Co (oY val n) (dj [40] (dj [33] s).1).1 b)
  else yZ val (iX val (dj [40] (dj [33] s).1).1 b)
theorem qG(s:Bt):(jY s).length<=s.length:=jX _ _
theorem gM(m s:Bt):(dj m s).1.length<=s.length/\((dj m s).2=true->(dj m s).1.length+m.length<=s.length):=by
 have h:=qG s;unfold dj eI;split
 ·rename_i hp;have:=eT hp;simp only[aj];omega
 ·refine⟨h,fun e=>?_⟩;cases e
theorem RL(val:nK)(s:Bt)(b:Bool):(BE val s b).2.1.length<=s.length:=by
 unfold BE;split
 ·split
  ·have:=(je (s.drop 1) [39]).2;rw[aj]at this
   show(Lib.cut (s.drop 1) [39]).2.1.length<=_
   omega
  ·exact ax _
 ·split
  ·show(s.drop _).length<=_
   rw[aj];omega
  ·unfold RJ;split
   ·exact ax _
   ·show(Lib.trimLeftS _ _).length<=_
    refine au (jX _ _) ?_;unfold Lib.trimPrefix;split
    ·rw[aj];omega
    ·exact dv _
theorem qH(val:nK)(s:Bt)(b:Bool):(iX val s b).2.1.length<=s.length:=au (RL _ _ _) (qG s)
theorem vR:∀(l:List Bt) (s:Bt),(ja l s).2.length<=s.length
 |[],s=>dv _
 |m::l,s=>by
  rw[ja];split
  ·exact(gM m s).1
  ·exact au (vR l _) (gM m s).1
theorem RM(val:nK)(a:PZ):(yZ val a).2.1.length<=a.2.1.length:=by
 have h:=vR eL a.2.1;unfold yZ;split
 ·exact h
 ·exact au (qH _ _ _) h
theorem OC(z:PZ):(uR z).2.1.length<=z.2.1.length:=by
 unfold uR;split
 ·exact(gM _ _).1
 ·exact ax _
def lD(one:Bt->Bool->PZ):Prop:=∀s b,(one s b).2.1.length<=s.length
theorem DR{one:Bt->Bool->PZ}(h:lD one)(m:Bt):∀(n:Nat) (l:List Ex) (s:Bt) (b:Bool),(iS one m n l s b).2.1.length<=s.length
 |0,_,_,_=>dv _
 |n+1,l,s,b=>by
  rw[iS];split
  ·exact au (DR h m n _ _ _) (au (h _ _) (gM m s).1)
  ·exact(gM m s).1
theorem sU{one:Bt->Bool->PZ}(h:lD one)(k:Int)(m:Bt):lD (mw k m one):=fun s b=>au (DR h m _ _ _ _) (h s b)
theorem UE{one:Bt->Bool->PZ}(h:lD one):lD (Co one):=sU (sU h _ _) _ _
theorem uS(val:nK):∀n:Nat,lD (oY val n)
 |0=>fun _ _=>dv _
 |n+1=>fun s b=>by
  have ih:=uS val n;rw[oY];split
  ·exact dv _
  ·split
   ·exact au (ih _ _) (gM _ _).1
   ·split
    ·exact au (OC _) (au (UE ih _ _) (au (gM _ _).1 (gM _ _).1))
    ·exact au (RM _ _) (au (qH _ _ _) (au (gM _ _).1 (gM _ _).1))
structure PS(W:World)(P:Nat)(s:Bt)(b:Bool):Prop where
 iz:bL W P 223 #[.string (bs s),.bool b]
 pP:eK W
 hP:0<P/\∀g,prog.globalNamed "internal/strconv.uint64pow10" =some g->g<P
section
variable {W W':World} {P:Nat} {s:Bt} {b:Bool}
theorem PS.below(h:PS W P s b)(hb:Below W.heap.size W W'):PS W' P s b:=⟨h.iz.below hb h.iz.lt,h.pP.below hb,h.hP⟩
theorem PS.G5(h:PS W P s b)(hg:W.grownBy W' (some P)):eK W':=h.pP.grown hg (by have:=h.hP.1;omega) (fun g Nu=>by have:=h.hP.2 g Nu;omega)
theorem PS.LN(h:PS W P s b)(s':Bt):PS (W.setCell ⟨P,0,none⟩ (.string (bs s'))) P s' b:=
 ⟨h.iz.cL 0 (.string (bs s')),h.G5 (bF (bR _ _) (.inl rfl) _),h.hP⟩
theorem PS.ab2(h:PS W P s b)(b':Bool):PS (W.setCell ⟨P,1,none⟩ (.bool b')) P s b':=
 ⟨h.iz.cL 1 (.bool b'),h.G5 (bF (bR _ _) (.inl rfl) _),h.hP⟩
end
def UF(P:Nat)(w:World)(v:Value)(s:Bt)(b:Bool)(e:Ending)(W:World):Prop:=e=.returned v/\PS W P s b/\w.grownBy W (some P)
def rP(P:Nat)(w:World)(z:PZ)(e:Ending)(W:World):Prop:=∃A c,e=.returned (da z.1 (.slice A z.1.bE.length c))/\GR W (fun k=>w.heap.size<=k) (.row 5 (z.1.bE.map Ex.gv)) [.slice A z.1.bE.length c]/\PS W P z.2.1 z.2.2/\w.grownBy W (some P)
def iq(W:World)(R:Nat)(x:Ex)(kv:Value):World:=
 ((((W.setCell ⟨R,0,none⟩ (.int .i64 x.kind)).setCell ⟨R,1,none⟩ (.int .i64 x.n)).setCell ⟨R,2,none⟩ (.string (bs x.text))).setCell ⟨R,3,none⟩ (.string (bs x.iD))).setCell ⟨R,4,none⟩ kv
section
variable {W a w:World} {R B g P:Nat} {t:TypeId}
theorem G7{a0 a1 a2 a3 a4:Value}(h:bL W R t #[a0,a1,a2,a3,a4])(x:Ex)(kv:Value):bL (iq W R x kv) R t (bH x kv).toArray:=
 ((((h.cL 0 (.int .i64 x.kind)).cL 1 (.int .i64 x.n)).cL 2 (.string (bs x.text))).cL 3 (.string (bs x.iD))).cL 4 kv
theorem LO(h:Below B a w)(hR:B<=R)(x:Ex)(kv:Value):Below B a (iq w R x kv):=
 ((((h.setCell (p:=⟨R,0,none⟩) hR _).setCell (p:=⟨R,1,none⟩) hR _).setCell (p:=⟨R,2,none⟩) hR _).setCell (p:=⟨R,3,none⟩) hR _).setCell (p:=⟨R,4,none⟩) hR _
theorem LP{row:Option Nat}(h:a.grownBy w row)(hR:a.heap.size<=R)(x:Ex)(kv:Value):a.grownBy (iq w R x kv) row:=
 bF (bF (bF (bF (bF h (p:=⟨R,0,none⟩) (.inr hR) _) (p:=⟨R,1,none⟩) (.inr hR) _) (p:=⟨R,2,none⟩) (.inr hR) _) (p:=⟨R,3,none⟩) (.inr hR) _) (p:=⟨R,4,none⟩) (.inr hR) _
theorem xM(W:World)(R:Nat)(x:Ex)(kv:Value):W.grownBy (iq W R x kv) (some R):=
 bF (bF (bF (bF (bF (bR W (some R)) (p:=⟨R,0,none⟩) (.inl rfl) _) (p:=⟨R,1,none⟩) (.inl rfl) _) (p:=⟨R,2,none⟩) (.inl rfl) _) (p:=⟨R,3,none⟩) (.inl rfl) _) (p:=⟨R,4,none⟩) (.inl rfl) _
theorem PS.jx{s:Bt}{b:Bool}(h:PS W P s b)(hg:W.grownBy w (some R))(hR:P<R):PS w P s b:=
 ⟨h.iz.grown hg (by simp;omega),h.pP.grown hg (by have:=h.hP.1;omega) (fun g Nu=>by have:=h.hP.2 g Nu;omega),h.hP⟩
end
structure vS(w W:World)(P X:Nat)(s:Bt)(b:Bool):Prop where
 rz:∃a0 a1 a2 a3 a4,bL W X 202 #[a0,a1,a2,a3,a4]
 ps:PS W P s b
 grown:w.grownBy W (some P)
 hX:w.heap.size<=X
 CG:P<w.heap.size
section
variable {w W W':World} {P X:Nat} {s:Bt} {b:Bool}
theorem vS.start(h:PS w P s b):vS w (w.alloc (.cells (bH kH (.slice none 0 0)).toArray 202)) P w.heap.size s b:=
 ⟨⟨_,_,_,_,_,bL.new w 202 (bH kH (.slice none 0 0)).toArray⟩,h.below (cU _ _),fX (bR _ _) _,dv _,h.iz.lt⟩
theorem vS.step{s':Bt}{b':Bool}(h:vS w W P X s b)(hp:PS W' P s' b')(hg:W.grownBy W' (some P)):vS w W' P X s' b':=by
 obtain⟨a0,a1,a2,a3,a4,hB⟩:=h.rz;exact⟨⟨a0,a1,a2,a3,a4,hB.grown hg (by have h1:=h.hX;have h2:=h.CG;simp;omega)⟩,hp,bU h.grown hg,h.hX,h.CG⟩
theorem vS.below(h:vS w W P X s b)(hb:Below W.heap.size W W'):vS w W' P X s b:=h.step (h.ps.below hb) (eR hb _)
theorem vS.LN(h:vS w W P X s b)(s':Bt):vS w (W.setCell ⟨P,0,none⟩ (.string (bs s'))) P X s' b:=h.step (h.ps.LN s') (bF (bR _ _) (.inl rfl) _)
theorem vS.ab2(h:vS w W P X s b)(b':Bool):vS w (W.setCell ⟨P,1,none⟩ (.bool b')) P X s b':=h.step (h.ps.ab2 b') (bF (bR _ _) (.inl rfl) _)
theorem vS.fin(h:vS w W P X s b)(x:Ex){A:Option Addr}{c:Nat}(hk:GR W (fun k=>w.heap.size<=k/\k≠X) (.row 5 (x.bE.map Ex.gv)) [.slice A x.bE.length c]):
 bL (iq W X x (.slice A x.bE.length c)) X 202 (bH x (.slice A x.bE.length c)).toArray/\rP P w (x,s,b) (.returned (da x (.slice A x.bE.length c))) (iq W X x (.slice A x.bE.length c)):=by
 obtain⟨a0,a1,a2,a3,a4,hB⟩:=h.rz;have hs:=xM W X x (.slice A x.bE.length c);have h1:=h.hX;have h2:=h.CG;refine⟨G7 hB x _,A,c,rfl,?_,h.ps.jx hs (by omega),LP h.grown h.hX x _⟩;exact GR.mono (fun k hk=>hk.1) (fun k hk bW=>hs.block k bW (fun e=>hk.2 (ar e))) _ _ hk
theorem vS.cells(h:vS w W P X s b):W.cell? ⟨P,0,none⟩=some (.string (bs s))/\W.cell? ⟨P,1,none⟩=some (.bool b)/\W.frozen? ⟨P,0,none⟩=false/\W.frozen? ⟨P,1,none⟩=false:=
 ⟨h.ps.iz.cell 0,h.ps.iz.cell 1,h.ps.iz.frozen 0,h.ps.iz.frozen 1⟩
end
theorem tv(s:Bt)(c:Array UInt8)(w:World)(tC:c.size<4294967281)(hc:c.toList.all (fun b=>decide (b.toNat<128))=true):
 Calls prog 201 #[.string (bs s),.string ⟨c⟩] w fun e w'=>e=.returned (.string (bs (Lib.trimLeftS s c.toList)))/\Below w.heap.size w w':=by
 refine Calls.mono (nd (bs s) ⟨c⟩ w tC (ascii_of_all hc)) ?_;rintro e w' ⟨rfl,hb⟩;refine⟨?_,hb⟩
 show Ending.returned (.string ⟨(Lib.trimLeftS (L (bs s)) c.toList).toArray⟩)=_
 rw[eB];rfl
theorem sV(s:Bt)(b:Bool)(P:Nat)(w:World)(h:PS w P s b):
 Calls prog 172 #[.pointer (some ⟨P,0,none⟩)] w (UF P w (.tuple #[]) (jY s) b):=by
 have HP:=bD h;have c0:=h.iz.cell 0;simp at c0;have HT:=bD (tv s #[32,9,10,13] w (by decide) (by decide));have HF:Hy (Lib.trimLeftS s (#[32,9,10,13]:Array UInt8).toList=jY s):=rfl;rw[HF.o]at HT;generalize jY s=t at*;clear h HF;go_enter func172,ntmps172;go_wp2_with fail;refine HT.o.mono ?_;rintro e w2 ⟨rfl,hb⟩;have j6:=bD (HP.o.below hb);have HB:=bD hb;have f0:=j6.o.iz.frozen 0;have d0:=j6.o.iz.cell 0;simp at d0;clear hb c0;go_wp2_with fail;refine ag (results_none rfl _ _ _) rfl ?_;exact⟨rfl,j6.o.LN t,bF (eR HB.o _) (.inl rfl) _⟩
theorem jF(m:Array UInt8)(s:Bt)(b:Bool)(P:Nat)(w:World)(h:PS w P s b):
 Calls prog 226 #[.pointer (some ⟨P,0,none⟩),.string ⟨m⟩] w (UF P w (.bool (dj m.toList s).2) (dj m.toList s).1 b):=by
 have HT:=bD (sV s b P w h);have HC:=bD (fun W=>jd (bs (jY s)) ⟨m⟩ W);rw[eB]at HC;have HF:Hy (eI (jY s) (L ⟨m⟩)=dj m.toList s):=rfl;rw[HF.o]at HC;generalize dj m.toList s=Z at*;generalize jY s=t at*;obtain⟨z1,z2⟩:=Z;simp only at HC;clear h HF;go_enter func226,ntmps226;go_wp2_with fail;refine HT.o.mono ?_;rintro e w2 ⟨rfl,hp,hg⟩;have j6:=bD hp;have HG:=bD hg;have f0:=j6.o.iz.frozen 0;have d0:=j6.o.iz.cell 0;simp at d0;clear hp hg;go_wp2_with fail;refine(HC.o _).mono ?_;rintro e w3 ⟨rfl,rfl⟩;go_wp2_with fail;go_ret;exact⟨rfl,j6.o.LN z1,bF HG.o (.inl rfl) _⟩
theorem DS{w:World}{X:Nat}{tmps:Array Value}{x:Ex}{kv:Value}(h4:tmps[2]?.getD undef=.pointer (some ⟨X,0,none⟩))(B0:bL w X 202 (bH x kv).toArray):
 (results f227 tmps).run prog w=.ok (da x kv) w:=by
 obtain⟨a0,a1,a2,a3,a4⟩:=kK B0;simp[bH]at a0 a1 a2 a3 a4;simp[results,results227,go_sem,h4,a0,a1,a2,a3,a4,da,bH]
theorem uT(s:Bt)(b:Bool)(P:Nat)(w:World)(h:PS w P s b):
 Calls prog 227 #[.pointer (some ⟨P,0,none⟩)] w (rP P w lU):=by
 have HX:=bD (vS.start h);obtain⟨c0,c1,f0,f1⟩:=HX.o.cells;clear h;go_enter func227,ntmps227;go_upto_region 1 with(fail)
 change Code.wp _ _ _ _ (w.alloc (.cells (bH kH (.slice none 0 0)).toArray 202));generalize w.alloc (.cells (bH kH (.slice none 0 0)).toArray 202)=w1 at*;generalize nH:w.heap.size=X at*;go_upto_region 3 with(fail)
 have iL:=bD ((HX.o.ab2 true).LN []);change Code.wp _ _ _ _ ((w1.setCell ⟨P,1,none⟩ (.bool true)).setCell ⟨P,0,none⟩ (.string (bs [])));generalize(w1.setCell ⟨P,1,none⟩ (.bool true)).setCell ⟨P,0,none⟩ (.string (bs []))=w2 at*;clear HX c0 c1 f0 f1;obtain⟨a0,a1,a2,a3,a4,hB⟩:=iL.o.rz;obtain⟨e0,e1,e2,e3,e4⟩:=kK hB;simp at e0 e1 e2 e3 e4;obtain⟨g0,g1,g2,g3,g4⟩:=xV hB;have gg:=bD nH;clear nH hB;go_wp2_with fail;obtain⟨q1,q2⟩:=iL.o.fin kH (A:=none) (c:=0) cS;change bodyPost _ _ _ _ _ (iq w2 X kH (.slice none 0 0));exact ag (DS rfl q1) rfl q2
theorem qI(w:World):Calls prog 233 #[] w fun e w'=>e=.returned (.slice (some ⟨w.heap.size,0,none⟩) 6 6)/\w'=w.alloc (.cells #[.string ⟨#[61,61]⟩,.string ⟨#[33,61]⟩,.string ⟨#[60,61]⟩,.string ⟨#[62,61]⟩,.string ⟨#[60]⟩,.string ⟨#[62]⟩] 9):=by
 go_enter func233,ntmps233;go_wp2_with fail;go_ret;exact⟨rfl,rfl⟩
theorem OD(s:Bt)(b:Bool)(P:Nat)(w:World)(h:PS w P s b):
 Calls prog 229 #[.pointer (some ⟨P,0,none⟩)] w (UF P w (.string (bs (ja eL s).1)) (ja eL s).2 b):=by
 have cg:=cU w (.cells #[.string ⟨#[61,61]⟩,.string ⟨#[33,61]⟩,.string ⟨#[60,61]⟩,.string ⟨#[62,61]⟩,.string ⟨#[60]⟩,.string ⟨#[62]⟩] 9);have HB:=bD (bL.new w 9 #[.string ⟨#[61,61]⟩,.string ⟨#[33,61]⟩,.string ⟨#[60,61]⟩,.string ⟨#[62,61]⟩,.string ⟨#[60]⟩,.string ⟨#[62]⟩]);have HP:=bD (h.below cg);have OE:Hy (P<w.heap.size):=h.iz.lt;have Cb:=bD cg;have HR:Hy (ja eL s=ja (eL.drop 0) s):=rfl;generalize ja eL s=R at*;clear h cg;go_enter func229,ntmps229;go_wp2_with fail;refine(qI w).mono ?_;rintro e w1 ⟨rfl,hw⟩;subst hw;generalize w.alloc (.cells #[.string ⟨#[61,61]⟩,.string ⟨#[33,61]⟩,.string ⟨#[60,61]⟩,.string ⟨#[62,61]⟩,.string ⟨#[60]⟩,.string ⟨#[62]⟩] 9)=w1 at*;go_wp2_with fail;go_loopw [4,7] (fun _ i wr=>∃(k:Nat) (t:Bt),k<=6/\i=.int .i64 k/\Hy (PS wr P t b)/\Hy (w.grownBy wr (some P))/\Hy (bL wr w.heap.size 9 #[.string ⟨#[61,61]⟩,.string ⟨#[33,61]⟩,.string ⟨#[60,61]⟩,.string ⟨#[62,61]⟩,.string ⟨#[60]⟩,.string ⟨#[62]⟩])/\Hy (R=ja (eL.drop k) t))
  (fun _ i wr=>6-(intOf i).toNat)
 case atStart=>exact⟨0,s,by omega,rfl,HP.o,eR Cb.o _,HB.o,HR.o⟩
 case round=>
  clear HP HB HR Cb;obtain⟨k,t,hk,rfl,HP,HG,HB,HR⟩:=hrel;rcases(by omega:k=0\/k=1\/k=2\/k=3\/k=4\/k=5\/k=6)with rfl|rfl|rfl|rfl|rfl|rfl|rfl
  ·have HE:=bD (jF #[61,61] t b P wr HP.o);cases he:(dj [61,61] t).2 with
   |true=>
    have gN:Hy (R=([61,61],(dj [61,61] t).1)):=by
     rw[Hy,HR.o]
     show(if(dj [61,61] t).2 then _ else _)=_
     rw[ae he]
    rw[show(#[61,61]:Array UInt8).toList=[61,61]from rfl,he]at HE;clear he HR;have c:=HB.o.cell 0;simp at c;go_wp2_with fail;refine HE.o.mono ?_;rintro e w2 ⟨rfl,hp,hg⟩;have j6:=bD hp;have nQ:=bD (bU HG.o hg);clear hp hg;go_wp2_with fail;go_ret;exact⟨by rw[gN.o];rfl,by rw[gN.o];exact j6.o,nQ.o⟩
   |false=>
    have gN:Hy (R=ja (eL.drop 1) (dj [61,61] t).1):=by
     rw[Hy,HR.o]
     show(if(dj [61,61] t).2 then _ else _)=_
     rw[aa (by rw[he];simp)];rfl
    rw[show(#[61,61]:Array UInt8).toList=[61,61]from rfl,he]at HE;clear he HR;have c:=HB.o.cell 0;simp at c;go_wp2_with fail;refine HE.o.mono ?_;rintro e w2 ⟨rfl,hp,hg⟩;have j6:=bD hp;have nQ:=bD (bU HG.o hg);have dm:=bD (HB.o.grown hg (by have:=OE.o;simp;omega));clear hp hg;go_wp2_with fail;go_roundw
    case rel=>exact⟨1,_,by omega,by go_num,j6.o,nQ.o,dm.o,gN.o⟩
    case measure=>simp[intOf]
  ·have HE:=bD (jF #[33,61] t b P wr HP.o);cases he:(dj [33,61] t).2 with
   |true=>
    have gN:Hy (R=([33,61],(dj [33,61] t).1)):=by
     rw[Hy,HR.o]
     show(if(dj [33,61] t).2 then _ else _)=_
     rw[ae he]
    rw[show(#[33,61]:Array UInt8).toList=[33,61]from rfl,he]at HE;clear he HR;have c:=HB.o.cell 1;simp at c;go_wp2_with fail;refine HE.o.mono ?_;rintro e w2 ⟨rfl,hp,hg⟩;have j6:=bD hp;have nQ:=bD (bU HG.o hg);clear hp hg;go_wp2_with fail;go_ret;exact⟨by rw[gN.o];rfl,by rw[gN.o];exact j6.o,nQ.o⟩
   |false=>
    have gN:Hy (R=ja (eL.drop 2) (dj [33,61] t).1):=by
     rw[Hy,HR.o]
     show(if(dj [33,61] t).2 then _ else _)=_
     rw[aa (by rw[he];simp)];rfl
    rw[show(#[33,61]:Array UInt8).toList=[33,61]from rfl,he]at HE;clear he HR;have c:=HB.o.cell 1;simp at c;go_wp2_with fail;refine HE.o.mono ?_;rintro e w2 ⟨rfl,hp,hg⟩;have j6:=bD hp;have nQ:=bD (bU HG.o hg);have dm:=bD (HB.o.grown hg (by have:=OE.o;simp;omega));clear hp hg;go_wp2_with fail;go_roundw
    case rel=>exact⟨2,_,by omega,by go_num,j6.o,nQ.o,dm.o,gN.o⟩
    case measure=>simp[intOf]
  ·have HE:=bD (jF #[60,61] t b P wr HP.o);cases he:(dj [60,61] t).2 with
   |true=>
    have gN:Hy (R=([60,61],(dj [60,61] t).1)):=by
     rw[Hy,HR.o]
     show(if(dj [60,61] t).2 then _ else _)=_
     rw[ae he]
    rw[show(#[60,61]:Array UInt8).toList=[60,61]from rfl,he]at HE;clear he HR;have c:=HB.o.cell 2;simp at c;go_wp2_with fail;refine HE.o.mono ?_;rintro e w2 ⟨rfl,hp,hg⟩;have j6:=bD hp;have nQ:=bD (bU HG.o hg);clear hp hg;go_wp2_with fail;go_ret;exact⟨by rw[gN.o];rfl,by rw[gN.o];exact j6.o,nQ.o⟩
   |false=>
    have gN:Hy (R=ja (eL.drop 3) (dj [60,61] t).1):=by
     rw[Hy,HR.o]
     show(if(dj [60,61] t).2 then _ else _)=_
     rw[aa (by rw[he];simp)];rfl
    rw[show(#[60,61]:Array UInt8).toList=[60,61]from rfl,he]at HE;clear he HR;have c:=HB.o.cell 2;simp at c;go_wp2_with fail;refine HE.o.mono ?_;rintro e w2 ⟨rfl,hp,hg⟩;have j6:=bD hp;have nQ:=bD (bU HG.o hg);have dm:=bD (HB.o.grown hg (by have:=OE.o;simp;omega));clear hp hg;go_wp2_with fail;go_roundw
    case rel=>exact⟨3,_,by omega,by go_num,j6.o,nQ.o,dm.o,gN.o⟩
    case measure=>simp[intOf]
  ·have HE:=bD (jF #[62,61] t b P wr HP.o);cases he:(dj [62,61] t).2 with
   |true=>
    have gN:Hy (R=([62,61],(dj [62,61] t).1)):=by
     rw[Hy,HR.o]
     show(if(dj [62,61] t).2 then _ else _)=_
     rw[ae he]
    rw[show(#[62,61]:Array UInt8).toList=[62,61]from rfl,he]at HE;clear he HR;have c:=HB.o.cell 3;simp at c;go_wp2_with fail;refine HE.o.mono ?_;rintro e w2 ⟨rfl,hp,hg⟩;have j6:=bD hp;have nQ:=bD (bU HG.o hg);clear hp hg;go_wp2_with fail;go_ret;exact⟨by rw[gN.o];rfl,by rw[gN.o];exact j6.o,nQ.o⟩
   |false=>
    have gN:Hy (R=ja (eL.drop 4) (dj [62,61] t).1):=by
     rw[Hy,HR.o]
     show(if(dj [62,61] t).2 then _ else _)=_
     rw[aa (by rw[he];simp)];rfl
    rw[show(#[62,61]:Array UInt8).toList=[62,61]from rfl,he]at HE;clear he HR;have c:=HB.o.cell 3;simp at c;go_wp2_with fail;refine HE.o.mono ?_;rintro e w2 ⟨rfl,hp,hg⟩;have j6:=bD hp;have nQ:=bD (bU HG.o hg);have dm:=bD (HB.o.grown hg (by have:=OE.o;simp;omega));clear hp hg;go_wp2_with fail;go_roundw
    case rel=>exact⟨4,_,by omega,by go_num,j6.o,nQ.o,dm.o,gN.o⟩
    case measure=>simp[intOf]
  ·have HE:=bD (jF #[60] t b P wr HP.o);cases he:(dj [60] t).2 with
   |true=>
    have gN:Hy (R=([60],(dj [60] t).1)):=by
     rw[Hy,HR.o]
     show(if(dj [60] t).2 then _ else _)=_
     rw[ae he]
    rw[show(#[60]:Array UInt8).toList=[60]from rfl,he]at HE;clear he HR;have c:=HB.o.cell 4;simp at c;go_wp2_with fail;refine HE.o.mono ?_;rintro e w2 ⟨rfl,hp,hg⟩;have j6:=bD hp;have nQ:=bD (bU HG.o hg);clear hp hg;go_wp2_with fail;go_ret;exact⟨by rw[gN.o];rfl,by rw[gN.o];exact j6.o,nQ.o⟩
   |false=>
    have gN:Hy (R=ja (eL.drop 5) (dj [60] t).1):=by
     rw[Hy,HR.o]
     show(if(dj [60] t).2 then _ else _)=_
     rw[aa (by rw[he];simp)];rfl
    rw[show(#[60]:Array UInt8).toList=[60]from rfl,he]at HE;clear he HR;have c:=HB.o.cell 4;simp at c;go_wp2_with fail;refine HE.o.mono ?_;rintro e w2 ⟨rfl,hp,hg⟩;have j6:=bD hp;have nQ:=bD (bU HG.o hg);have dm:=bD (HB.o.grown hg (by have:=OE.o;simp;omega));clear hp hg;go_wp2_with fail;go_roundw
    case rel=>exact⟨5,_,by omega,by go_num,j6.o,nQ.o,dm.o,gN.o⟩
    case measure=>simp[intOf]
  ·have HE:=bD (jF #[62] t b P wr HP.o);cases he:(dj [62] t).2 with
   |true=>
    have gN:Hy (R=([62],(dj [62] t).1)):=by
     rw[Hy,HR.o]
     show(if(dj [62] t).2 then _ else _)=_
     rw[ae he]
    rw[show(#[62]:Array UInt8).toList=[62]from rfl,he]at HE;clear he HR;have c:=HB.o.cell 5;simp at c;go_wp2_with fail;refine HE.o.mono ?_;rintro e w2 ⟨rfl,hp,hg⟩;have j6:=bD hp;have nQ:=bD (bU HG.o hg);clear hp hg;go_wp2_with fail;go_ret;exact⟨by rw[gN.o];rfl,by rw[gN.o];exact j6.o,nQ.o⟩
   |false=>
    have gN:Hy (R=ja (eL.drop 6) (dj [62] t).1):=by
     rw[Hy,HR.o]
     show(if(dj [62] t).2 then _ else _)=_
     rw[aa (by rw[he];simp)];rfl
    rw[show(#[62]:Array UInt8).toList=[62]from rfl,he]at HE;clear he HR;have c:=HB.o.cell 5;simp at c;go_wp2_with fail;refine HE.o.mono ?_;rintro e w2 ⟨rfl,hp,hg⟩;have j6:=bD hp;have nQ:=bD (bU HG.o hg);have dm:=bD (HB.o.grown hg (by have:=OE.o;simp;omega));clear hp hg;go_wp2_with fail;go_roundw
    case rel=>exact⟨6,_,by omega,by go_num,j6.o,nQ.o,dm.o,gN.o⟩
    case measure=>simp[intOf]
  ·have gN:Hy (R=([],t)):=by rw[Hy,HR.o];rfl
   clear HR;go_wp2_with fail;go_ret;exact⟨by rw[gN.o];rfl,by rw[gN.o];exact HP.o,HG.o⟩
theorem OF(val:nK)(s nm key o r:Bt)(hr:r.length<=s.length):(fS val s nm key o r).2<=s.length:=by
 unfold fS;split
 ·rename_i h;have hl:1<=r.length:=eT h
  show s.length-r.length+1<=s.length
  omega
 ·exact ax _
theorem UG(val:nK)(s:Bt):(j9 val s).2<=s.length:=by
 unfold j9;split
 ·split
  ·exact ax _
  ·cases hk:Ck ((s.drop 2).drop (runN rL (s.drop 2)))with
   |none=>exact ax _
   |some kr=>
    obtain⟨key,r1⟩:=kr;have h1:=(Qd hk).2;rw[aj,aj]at h1;simp only;cases ho:jD r1 with
    |none=>exact ax _
    |some or=>
     obtain⟨o,r2⟩:=or;have h2:=G8 ho;exact OF val s _ key o r2 (by omega)
 ·exact ax _
def y7:cK:=⟨[],[],[],[],[],[]⟩
theorem kY{w:World}{X:Nat}{tmps:Array Value}{x:Ex}{kv:Value}(h4:tmps[2]?.getD undef=.pointer (some ⟨X,0,none⟩))(B0:bL w X 202 (bH x kv).toArray):
 (results f228 tmps).run prog w=.ok (da x kv) w:=by
 obtain⟨a0,a1,a2,a3,a4⟩:=kK B0;simp[bH]at a0 a1 a2 a3 a4;simp[results,results228,go_sem,h4,a0,a1,a2,a3,a4,da,bH]
theorem y8(val:nK)(jj:qE y7 val)(s:Bt)(b:Bool)(P:Nat)(w:World)(h:PS w P s b)(hs:s.length<=10000):
 Calls prog 228 #[.pointer (some ⟨P,0,none⟩)] w (rP P w (iX val s b)):=by
 have HX:=bD (vS.start h);have hZ:iX val s b=BE val (jY s) b:=rfl;have mC:=qG s;have qT:=bD (fun W h=>sV s b P W h);generalize iX val s b=Z at*;generalize jY s=t at*;have HZ:=bD hZ;have ht:t.length<=10000:=by omega
 have HT:=bD ht;have UH:=bD (fun W hg=>vP y7 val jj t (by omega) W hg);clear h hZ mC hs jj ht;go_enter func228,ntmps228;go_upto_region 1 with(fail)
 change Code.wp _ _ _ _ (w.alloc (.cells (bH kH (.slice none 0 0)).toArray 202));generalize w.alloc (.cells (bH kH (.slice none 0 0)).toArray 202)=w1 at*;generalize nH:w.heap.size=X at*;have gg:=bD nH;clear nH;go_wp2_with fail;refine(qT.o _ HX.o.ps).mono ?_;rintro e wx ⟨rfl,hp,hg⟩;have iL:=bD (HX.o.step hp hg);clear hp hg HX qT;have HX:=iL;clear iL;obtain⟨c0,c1,f0,f1⟩:=HX.o.cells;have P7:=bD (jd (bs t) ⟨#[39]⟩ wx);rw[eB,show L (⟨#[39]⟩:ByteArray)=[39]from rfl]at P7;cases hp:Lib.hasPrefix t [39]with
 |true=>
  have CE:Hy (Z=if(Lib.cut (t.drop 1) [39]).2.2 then(.mk 2 0 (Lib.cut (t.drop 1) [39]).1 [] [],(Lib.cut (t.drop 1) [39]).2.1,b)else lU):=by rw[Hy,HZ.o,BE,ae hp]
  rw[show eI t [39]=(t.drop 1,true)from by unfold eI;rw[hp];rfl]at P7;have vK:(t.drop 1).length<=10000:=by rw[aj];have:=HT.o;omega
  generalize t.drop 1=r at*;clear hp HZ;go_wp2_with fail;refine P7.o.mono ?_;rintro e w3 ⟨rfl,rfl⟩;go_wp2_with fail;refine(jT (bs r) [39] (by rw[bJ];omega) wx HX.o.ps.pP).mono ?_;rintro e w3 ⟨x,y,f,d,rfl,zK,tE⟩;rw[eB]at zK;have fm:Below wx.heap.size wx w3:=by rw[tE];exact⟨rfl,rfl,rfl,dv _,fun _ _=>rfl⟩
  have ry:=bD (HX.o.below fm);clear tE fm HX c0 c1 f0 f1 P7;obtain⟨wx,rfl⟩:∃wx:World,wx=w3:=⟨_,rfl⟩;have HX:=ry;clear ry;obtain⟨c0,c1,f0,f1⟩:=HX.o.cells;cases f with
  |false=>
   have gu:Hy (Z=lU):=by rw[Hy,CE.o,zK.o];rfl
   clear CE zK;go_wp2_with fail;refine(uT _ _ P _ HX.o.ps).mono ?_;rintro e w9 ⟨A9,c9,rfl,PD,VW,xX⟩;have qv:=bD (HX.o.step VW xX);have HK9:Hy (GR w9 (fun k=>w.heap.size<=k/\k≠X) (.row 5 (lU.1.bE.map Ex.gv)) [.slice A9 lU.1.bE.length c9]):=by
    have av6:X<wx.heap.size:=by obtain⟨_,_,_,_,_,hB⟩:=HX.o.rz;exact hB.lt
    have h1:=HX.o.grown.size;exact PD.dY (fun k hk=>⟨by omega,by omega⟩)
   clear PD VW xX HX;have HX:=qv;clear qv;obtain⟨a0,a1,a2,a3,a4,hB⟩:=HX.o.rz;obtain⟨e0,e1,e2,e3,e4⟩:=kK hB;simp at e0 e1 e2 e3 e4;obtain⟨g0,g1,g2,g3,g4⟩:=xV hB;clear hB;simp only[da,bH,lU,kH,Ex.kind,Ex.n,Ex.text,Ex.iD,Ex.bE]at*;go_wp2_with fail;obtain⟨q1,q2⟩:=HX.o.fin lU.1 (A:=A9) (c:=c9) HK9.o;rw[gu.o];change bodyPost _ _ _ _ _ (iq w9 X kH (.slice A9 0 c9));exact ag (kY rfl q1) rfl q2
  |true=>
   have gu:Hy (Z=(.mk 2 0 x [] [],y,b)):=by rw[Hy,CE.o,zK.o];rfl
   clear CE zK;go_upto_region 8 with(fail)
   have nx:=bD (HX.o.LN y);change Code.wp _ _ _ _ (wx.setCell ⟨P,0,none⟩ (.string (bs y)));generalize wx.setCell ⟨P,0,none⟩ (.string (bs y))=w4 at*;clear HX c0 c1 f0 f1;have HX:=nx;clear nx;obtain⟨a0,a1,a2,a3,a4,hB⟩:=HX.o.rz;obtain⟨e0,e1,e2,e3,e4⟩:=kK hB;simp at e0 e1 e2 e3 e4;obtain⟨g0,g1,g2,g3,g4⟩:=xV hB;clear hB;go_wp2_with fail;obtain⟨q1,q2⟩:=HX.o.fin (.mk 2 0 x [] []) (A:=none) (c:=0) cS;rw[gu.o];change bodyPost _ _ _ _ _ (iq w4 X (.mk 2 0 x [] []) (.slice none 0 0));exact ag (kY rfl q1) rfl q2
 |false=>
  have CE:Hy (Z=if 0<(j9 val t).2 then(.mk 3 0 (t.take (j9 val t).2) [] [],t.drop (j9 val t).2,b)else RJ val t b):=by rw[Hy,HZ.o,BE,aa (by rw[hp];simp)]
  rw[show eI t [39]=(t,false)from by unfold eI;rw[hp];rfl]at P7;have hnl:=UG val t;generalize j9 val t=RF at*;obtain⟨rv,n⟩:=RF;simp only at UH CE hnl;clear hp HZ;go_wp2_with fail;refine P7.o.mono ?_;rintro e w3 ⟨rfl,rfl⟩;go_wp2_with fail;refine(UH.o wx HX.o.ps.pP).mono ?_;rintro e w3 ⟨rfl,fm⟩;have ry:=bD (HX.o.below fm);clear fm HX c0 c1 f0 f1 P7 UH;obtain⟨wx,rfl⟩:∃wx:World,wx=w3:=⟨_,rfl⟩;have HX:=ry;clear ry;obtain⟨c0,c1,f0,f1⟩:=HX.o.cells;by_cases hn:0<n
  ·have tQ:(0:Int)<(n:Int):=by omega
   have Ix:(n:Int)<=(t.length:Int):=by omega
   have lQ:((bs t).size:Int)=(t.length:Int):=by rw[bJ]
   have hn0:(0:Int)<=(n:Int):=by omega
   have gu:Hy (Z=(.mk 3 0 (t.take n) [] [],t.drop n,b)):=by rw[Hy,CE.o,ae hn]
   have so:=oF t n;have GB:=im t n;clear CE;go_upto_region 12 with(fail)
   have HA:=bD (cU wx (.cells (bH (.mk 3 0 (t.take n) [] []) (.slice none 0 0)).toArray 202));have HY:=bD (bL.new wx 202 (bH (.mk 3 0 (t.take n) [] []) (.slice none 0 0)).toArray)
   try rw[so]
   change Code.wp _ _ _ _ (wx.alloc (.cells (bH (.mk 3 0 (t.take n) [] []) (.slice none 0 0)).toArray 202));have nx:=bD (HX.o.below HA.o);have S4:Hy (P<wx.heap.size):=HX.o.ps.iz.lt;generalize wx.alloc (.cells (bH (.mk 3 0 (t.take n) [] []) (.slice none 0 0)).toArray 202)=w4 at*;generalize wx.heap.size=Y at*;clear HX c0 c1 f0 f1 HA;have HX:=nx;clear nx;obtain⟨c0,c1,f0,f1⟩:=HX.o.cells;go_upto_region 13 with(fail)
   try rw[GB]
   have nx:=bD (HX.o.LN (t.drop n));have Yd:=bD (HY.o.gf (p:=⟨P,0,none⟩) (by have:=S4.o;show Y≠P;omega) (.string (bs (t.drop n))));change Code.wp _ _ _ _ (w4.setCell ⟨P,0,none⟩ (.string (bs (t.drop n))));generalize w4.setCell ⟨P,0,none⟩ (.string (bs (t.drop n)))=w5 at*;clear HX c0 c1 f0 f1 HY;have HX:=nx;clear nx;obtain⟨y0,y1,y2,y3,y4⟩:=kK Yd.o;simp[bH,Ex.kind,Ex.n,Ex.text,Ex.iD]at y0 y1 y2 y3 y4;obtain⟨a0,a1,a2,a3,a4,hB⟩:=HX.o.rz;obtain⟨e0,e1,e2,e3,e4⟩:=kK hB;simp at e0 e1 e2 e3 e4;obtain⟨g0,g1,g2,g3,g4⟩:=xV hB;clear hB;go_wp2_with fail;obtain⟨q1,q2⟩:=HX.o.fin (.mk 3 0 (t.take n) [] []) (A:=none) (c:=0) cS;rw[gu.o];change bodyPost _ _ _ _ _ (iq w5 X (.mk 3 0 (t.take n) [] []) (.slice none 0 0));exact ag (kY rfl q1) rfl q2
  ·have tQ:¬(0:Int)<(n:Int):=by omega
   have gu:Hy (Z=RJ val t b):=by rw[Hy,CE.o,aa hn]
   clear CE hnl;have Yb:=bD (fun W=>strings_TrimPrefix (bs t) ⟨#[45]⟩ W);have Yb:Hy (∀W,Calls prog 214 #[.string (bs t),.string ⟨#[45]⟩] W fun e W'=>e=.returned (.string (bs (Lib.trimPrefix t [45])))/\W'=W):=by
    intro W;have h:=Yb.o W;rw[ga]at h;exact h
   have hpl:(Lib.trimPrefix t [45]).length<=t.length:=by
    unfold Lib.trimPrefix;split
    ·rw[aj];omega
    ·exact dv _
   have UI:=bD (fun W=>tv (Lib.trimPrefix t [45]) #[48,49,50,51,52,53,54,55,56,57] W (by decide) (by decide));have vK:(Lib.trimLeftS (Lib.trimPrefix t [45]) wS).length<=t.length:=au (jX _ _) hpl;have HNP:Hy (RJ val t b=if(fa (t.take (t.length-(Lib.trimLeftS (Lib.trimPrefix t [45]) wS).length))).2≠0 then lU
    else(.mk 1 (fa (t.take (t.length-(Lib.trimLeftS (Lib.trimPrefix t [45]) wS).length))).1 [] [] [],Lib.trimLeftS (Lib.trimPrefix t [45]) wS,b)):=rfl
   rw[show(#[48,49,50,51,52,53,54,55,56,57]:Array UInt8).toList=wS from rfl]at UI;generalize Lib.trimPrefix t [45]=dg at*;generalize Lib.trimLeftS dg wS=r at*;have HSI:=bD (fun W=>sP (bs (t.take (t.length-r.length))) W (by rw[bJ,ay];have:=HT.o;omega));rw[eB]at HSI;generalize fa (t.take (t.length-r.length))=SF at*;obtain⟨sn,se⟩:=SF;simp only at HSI HNP;have ny:Hy (Z=if se≠0 then lU else(.mk 1 sn [] [] [],r,b)):=by rw[Hy,gu.o,HNP.o]
   clear gu HNP hpl hn;have q1:IntKind.i64.wrap ((t.length:Int)-(r.length:Int))=(t.length:Int)-(r.length:Int):=aI _ (by have:=HT.o;omega);have q2:(0:Int)<=(t.length:Int)-(r.length:Int):=by omega
   have q3:(t.length:Int)-(r.length:Int)<=(t.length:Int):=by omega
   have q4:((bs t).size:Int)=(t.length:Int):=by rw[bJ]
   have q5:((bs r).size:Int)=(r.length:Int):=by rw[bJ]
   have q6:((t.length:Int)-(r.length:Int)).toNat=t.length-r.length:=by omega
   have q7:=oF t (t.length-r.length);go_wp2_with fail;refine(Yb.o wx).mono ?_;rintro e w3 ⟨rfl,tE⟩;have tE:=tE.symm;subst tE;go_wp2_with fail;refine(UI.o wx).mono ?_;rintro e w3 ⟨rfl,fm⟩;have ry:=bD (HX.o.below fm);clear fm HX c0 c1 f0 f1 Yb UI;obtain⟨wx,rfl⟩:∃wx:World,wx=w3:=⟨_,rfl⟩;have HX:=ry;clear ry;go_upto_region 16 with(fail)
   have hS:wx.drew.cell? ⟨P,0,none⟩=some (.string (bs t)):=HX.o.ps.iz.cell 0;refine aL (S:=(fun w'=>w'.cell? ⟨P,0,none⟩=some (.string (bs t)))) (by kernel_rfl) ?_;change wpAnyH _ _ _ _ _ _ _ _ (World.drew _);refine dB 0 hS ?_;refine dB 1 hS ?_;refine dB 2 hS ?_;refine dB 3 hS ?_;refine dB 4 hS ?_;refine dB 5 hS ?_;refine dB 6 hS ?_;refine dB 7 hS ?_;refine dB 8 hS ?_;refine dB 9 hS ?_;refine dB 10 hS ?_;refine dB 11 hS ?_;refine dB 12 hS ?_;refine gi (i:=13) (v:=_) rfl (by kernel_rfl) (by kernel_rfl) (by kernel_rfl) (fun _ _ _ h=>h) ⟨by kernel_rfl,_,_,?_,fun w_ cY=>HSI.o w_⟩ hS ?_
   ·(intro w_;go_simp;try with_reducible rfl)
   refine dB 14 hS ?_;refine dB 15 hS ?_;refine dB 16 hS ?_;refine dB 17 hS ?_;refine dB 18 hS ?_;refine aJ (by kernel_rfl) ?_ _;have ry:=bD (HX.o.below (aF _ _).drew);generalize wx.drew=w3 at*;clear HX hS;obtain⟨wx,rfl⟩:∃wx:World,wx=w3:=⟨_,rfl⟩;have HX:=ry;clear ry;obtain⟨c0,c1,f0,f1⟩:=HX.o.cells;by_cases he:se=0
   ·have hb:(se !=0)=false:=by rw[he];rfl
    have gu:Hy (Z=(.mk 1 sn [] [] [],r,b)):=by rw[Hy,ny.o,aa (by simpa using he)]
    clear ny he;go_upto_region 20 with(fail)
    have nx:=bD (HX.o.LN r);change Code.wp _ _ _ _ (wx.setCell ⟨P,0,none⟩ (.string (bs r)));generalize wx.setCell ⟨P,0,none⟩ (.string (bs r))=w4 at*;clear HX c0 c1 f0 f1;have HX:=nx;clear nx;obtain⟨a0,a1,a2,a3,a4,hB⟩:=HX.o.rz;obtain⟨e0,e1,e2,e3,e4⟩:=kK hB;simp at e0 e1 e2 e3 e4;obtain⟨g0,g1,g2,g3,g4⟩:=xV hB;clear hB;go_wp2_with fail;obtain⟨q1,q2⟩:=HX.o.fin (.mk 1 sn [] [] []) (A:=none) (c:=0) cS;rw[gu.o];change bodyPost _ _ _ _ _ (iq w4 X (.mk 1 sn [] [] []) (.slice none 0 0));exact ag (kY rfl q1) rfl q2
   ·have hb:(se !=0)=true:=by rw[aQ];exact he
    have gu:Hy (Z=lU):=by rw[Hy,ny.o,ae he]
    clear ny he;go_wp2_with fail;refine(uT _ _ P _ HX.o.ps).mono ?_;rintro e w9 ⟨A9,c9,rfl,PD,VW,xX⟩;have qv:=bD (HX.o.step VW xX);have HK9:Hy (GR w9 (fun k=>w.heap.size<=k/\k≠X) (.row 5 (lU.1.bE.map Ex.gv)) [.slice A9 lU.1.bE.length c9]):=by
     have av6:X<wx.heap.size:=by obtain⟨_,_,_,_,_,hB⟩:=HX.o.rz;exact hB.lt
     have h1:=HX.o.grown.size;exact PD.dY (fun k hk=>⟨by omega,by omega⟩)
    clear PD VW xX HX;have HX:=qv;clear qv;obtain⟨a0,a1,a2,a3,a4,hB⟩:=HX.o.rz;obtain⟨e0,e1,e2,e3,e4⟩:=kK hB;simp at e0 e1 e2 e3 e4;obtain⟨g0,g1,g2,g3,g4⟩:=xV hB;clear hB;simp only[da,bH,lU,kH,Ex.kind,Ex.n,Ex.text,Ex.iD,Ex.bE]at*;go_wp2_with fail;obtain⟨q1,q2⟩:=HX.o.fin lU.1 (A:=A9) (c:=c9) HK9.o;rw[gu.o];change bodyPost _ _ _ _ _ (iq w9 X kH (.slice A9 0 c9));exact ag (kY rfl q1) rfl q2
end Go.Proofs.YtejafaaihodehaaGreatDoor
