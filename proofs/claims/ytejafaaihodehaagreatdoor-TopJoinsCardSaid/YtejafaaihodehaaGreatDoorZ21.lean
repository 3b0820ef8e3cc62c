/- Part 21. -/
import Derived.Test.YtejafaaihodehaaGreatDoorZ16
import Derived.Test.YtejafaaihodehaaGreatDoorZ20
set_option linter.all false
set_option maxRecDepth 100000
set_option maxHeartbeats 8000000
namespace Go.Proofs.YtejafaaihodehaaGreatDoor
open Go Go.RowKit Tryz
theorem ML{sub:Int->Bt->Nat->List Elem × Int × Nat}(hs:∀k n i,i<=(sub k n i).2.2)(room:Bool)(t:bG)(ej:Int)(out:List Elem)(i:Nat):i<=(mx sub room t ej out i).2.2:=by
 unfold mx
 repeat' split
 all_goals first
  |exact dv _
  |exact hs _ _ _
theorem wh{sub:Int->Bt->Nat->List Elem × Int × Nat}(hs:∀k n i,i<=(sub k n i).2.2)(room:Bool)(l:List bG)(ej:Int)(name:Bt):∀(n i:Nat) (out:List Elem),i<=(lJ sub room l ej name n i out).2.2
 |0,i,out=>by rw[lJ];exact dv _
 |n+1,i,out=>by
  rw[lJ];split
  ·exact dv _
  ·rename_i t _;split
   ·exact dv _
   ·split
    ·exact aY _
    ·split
     ·have h1:=ML hs room t ej out (i+1);split
      ·exact au (by omega) (wh hs room l ej name n _ _)
      ·show i<=(mx sub room t ej out (i+1)).2.2
       omega
     ·split
      ·split
       ·exact au (by omega) (wh hs room l ej name n _ _)
       ·exact aY _
      ·exact au (by omega) (wh hs room l ej name n _ _)
theorem Ic(l:List bG):∀(d:Nat) (ej:Int) (name:Bt) (i:Nat),i<=(mh l d ej name i).2.2
 |0,ej,name,i=>wh (fun _ _ i=>dv i) false l ej name _ i []
 |d+1,ej,name,i=>wh (Ic l d) true l ej name _ i []
structure zL(w W:World)(b:Nat)(Al:Option Addr)(nl cl:Nat)(i:Nat)(z:Int)(vo:Value)(o:List Elem):Prop where
 hB:bL W b 84 #[.slice Al nl cl,.int .i64 i,.int .i64 z]
 own:b8 W w.heap.size 62 7 (fun g=>w.heap.size<=g) vo (o.map Elem.gv)
 hg:w.grownBy W (some b)
 hb:b<w.heap.size
section
variable {w W W':World} {b:Nat} {Al:Option Addr} {nl cl:Nat} {i:Nat} {z:Int} {vo:Value} {o:List Elem}
theorem zL.below(h:zL w W b Al nl cl i z vo o)(hb:Below W.heap.size W W'):zL w W' b Al nl cl i z vo o:=
 ⟨h.hB.below hb h.hB.lt,h.own.below hb,kI h.hg hb,h.hb⟩
theorem zL.drewN(h:zL w W b Al nl cl i z vo o)(k:Nat):zL w (W.drewN k) b Al nl cl i z vo o:=h.below (below_drewN (aF _ _) _)
theorem zL.grown(h:zL w W b Al nl cl i z vo o)(hg:W.grownBy W' (some b)){i':Nat}{z':Int}(hB:bL W' b 84 #[.slice Al nl cl,.int .i64 i',.int .i64 z']):zL w W' b Al nl cl i' z' vo o:=
 have h1:=h.hb
 ⟨hB,h.own.kept hg (.inr (fun e=>by have:=(h.own.lt b e).1;omega)) (fun k hk e=>by injection e with e;have fA:w.heap.size<=k:=hk;omega),dR h.hg hg (fun k hk=>.inl hk),h1⟩
theorem zL.ay9(h:zL w W b Al nl cl i z vo o)(i':Nat):zL w (W.setCell ⟨b,1,none⟩ (.int .i64 i')) b Al nl cl i' z vo o:=
 h.grown (bF (bR _ _) (.inl rfl) _) (h.hB.cL 1 _)
theorem zL.XS(h:zL w W b Al nl cl i z vo o)(z':Int):zL w (W.setCell ⟨b,2,none⟩ (.int .i64 z')) b Al nl cl i z' vo o:=
 h.grown (bF (bR _ _) (.inl rfl) _) (h.hB.cL 2 _)
theorem zL.push(h:zL w W b Al nl cl i z vo o){vo':Value}{x:Elem}(hg:W.grownBy W' vo.ownBlock)(ho:b8 W' w.heap.size 62 7 (fun g=>w.heap.size<=g) vo' (o.map Elem.gv++[x.gv])):zL w W' b Al nl cl i z vo' (o++[x]):=
 have h1:=h.hb
 ⟨h.hB.grown hg (fun e=>by have:=(h.own.lt b e.symm).1;omega),by rw[aK];exact ho,dR h.hg hg (fun k hk=>.inr (h.own.lt k hk).1),h1⟩
theorem zL.post{q:List Elem × Int × Nat}{A:Option Addr}{c:Nat}(h:zL w W b Al nl cl i z (.slice A o.length c) o)(hq:q=(o,z,i)):
 Qs b (.slice Al nl cl) w q (.returned (.slice A o.length c)) W:=by
 subst hq;exact⟨⟨A,c,rfl,h.own.gr (fun _ h=>h) (fun k hk=>(h.own.lt k hk).1)⟩,h.hB,h.hg⟩
theorem Vz{e:Elem}{kv:Value}{Gk:Nat->Prop}{N:Nat}(h:zL w W b Al nl cl i z vo o)(hk:GR W Gk (.row 7 (e.bE.map Elem.gv)) [kv])(hG:∀k,Gk k->w.heap.size<=k/\some k≠vo.ownBlock)(hN:N=o.length)(fH:o.length<=99999)(C:Array Value)(hC:C=(dp e kv).toArray):
 tm ((W.alloc (.cells C 62)).alloc (.cells C 62)) w.heap.size 62 7 104 (fun g=>w.heap.size<=g) vo (o.map Elem.gv) (some ⟨W.heap.size+1,0,none⟩) 1 [e.gv] (dp e kv) (N+1):=by
 subst hC hN;have dG:Below W.heap.size W ((W.alloc (.cells (dp e kv).toArray 62)).alloc (.cells (dp e kv).toArray 62)):=
  (cU _ _).alloc (by simp) _
 have hB:=bL.new (W.alloc (.cells (dp e kv).toArray 62)) 62 (dp e kv).toArray;rw[size_alloc]at hB;have hs:=h.hg.size;have key:=tm.sE (bytes:=104) (size:=7) (h.own.below dG) hB (GR.mono (F':=fun k=>w.heap.size<=k/\some k≠vo.ownBlock) hG (fun x _ bW=>dG.block x bW) _ _ (C0 hk)) rfl (by rw[ah];omega) (by omega) (by rw[size_alloc,size_alloc];omega);rw[ah]at key;exact key
theorem VA{N:Nat}(h:zL w W b Al nl cl i z vo o)(hN:N=o.length)(fH:o.length<=99999)(tx:Bt):
 tm (W.alloc (.cells #[.int .i64 1,.string (bs tx),.string ⟨#[]⟩,.string ⟨#[]⟩,.bool false,.string ⟨#[]⟩,.slice none 0 0] 62)) w.heap.size 62 7 104 (fun g=>w.heap.size<=g) vo (o.map Elem.gv) (some ⟨W.heap.size,0,none⟩) 1 [(dH tx).gv] (dp (dH tx) (.slice none 0 0)) (N+1):=by
 subst hN;have dG:Below W.heap.size W (W.alloc (.cells (dp (dH tx) (.slice none 0 0)).toArray 62)):=cU _ _;have hB:=bL.new W 62 (dp (dH tx) (.slice none 0 0)).toArray;have hs:=h.hg.size;have key:=tm.sE (bytes:=104) (size:=7) (h.own.below dG) hB (C0 (F:=fun k=>w.heap.size<=k/\some k≠vo.ownBlock) (e:=dH tx) cS) rfl (by rw[ah];omega) (by omega) (by rw[size_alloc];omega);rw[ah]at key;exact key
end
def MM(b n:Nat)(W:World):Nat:=
 match W.cell? ⟨b,1,none⟩with
 |some (.int _ k)=>n-k.toNat
 |_=>0
theorem vA{w W:World}{b:Nat}{Al:Option Addr}{nl cl:Nat}{i:Nat}{z:Int}{vo:Value}{o:List Elem}(h:zL w W b Al nl cl i z vo o)(n:Nat):MM b n W=n-i:=by
 unfold MM;rw[show W.cell? ⟨b,1,none⟩=some (.int .i64 i)from h.hB.cell 1];simp
theorem BZ(b:Nat)(l:List bG)(Al:Option Addr)(cl:Nat)(ej:Int)(name:ByteArray)(dn:Nat)(i0:Nat)(sub:Int->Bt->Nat->List Elem × Int × Nat)(F:Nat->Prop)(w:World)
 (hd:dn<=16) (VI:∀k n i,i<=(sub k n i).2.2) (hb:bL w b 84 #[.slice Al l.length cl,.int .i64 i0,.int .i64 0]) (hv:GR w F (.row 3 (l.map bG.gv)) [.slice Al l.length cl]) (hF:∀g,F g->g≠b)
 (fH:l.length<=4000000) (htx:∀t∈l,t.text.length<=100000000)
 (yO:dn<16->∀(W:World) (k:Int) (tx:ByteArray) (i:Nat),w.grownBy W (some b)->bL W b 84 #[.slice Al l.length cl,.int .i64 i,.int .i64 0]->Vy b (.slice Al l.length cl) (dn+1) sub k tx i W):
 Calls prog 29 #[.pointer (some ⟨b,0,none⟩),.int .i64 ej,.string name,.int .i64 dn] w (Qs b (.slice Al l.length cl) w (lJ sub (decide (dn<16)) l ej (L name) (l.length+1) i0 [])):=by
 obtain⟨A,c,hv1,zQ,mz,dS⟩:=iG (GR.du _ _ hv);injection hv1 with e1 e2 e3
 subst e1 e3;have ub:=bD dS;unfold maxLen at mz;have pq:Below w.heap.size w (w.alloc (.cells #[] 62)):=cU _ _;have Y9:Hy (zL w (w.alloc (.cells #[] 62)) b Al l.length cl i0 0 (.slice (some ⟨w.heap.size,0,none⟩) 0 0) []):=
  ⟨hb.below pq hb.lt,⟨[],World.ownsRow_lit w #[] 0 (dv _) (by simp[maxLen]) (by simp),jt.2 rfl⟩,eR pq _,hb.lt⟩
 have Fk:Hy (lJ sub (decide (dn<16)) l ej (L name) (l.length+1) i0 []=lJ sub (decide (dn<16)) l ej (L name) (l.length+1) i0 []):=rfl;obtain⟨RR,Zo⟩:∃RR,RR=lJ sub (decide (dn<16)) l ej (L name) (l.length+1) i0 []:=⟨_,rfl⟩;rw[<-Zo];have HRR:=bD Zo;have Q9:=bD yO;have Wn:=bD VI;have HTX:=bD htx;have M8:=bD hF;clear dS hv hb pq Fk Zo yO VI htx hF;go_enter func29,ntmps29;go_wp2_with fail;go_loopw [9,10,11] (fun vo _ _ wr=>∃(A:Option Addr) (c:Nat) (o:List Elem) (n i:Nat) (z:Int),vo=.slice A o.length c/\o.length<=401/\Hy (zL w wr b Al l.length cl i z vo o)/\
  (z=0->Hy (RR=lJ sub (decide (dn<16)) l ej (L name) n i o)/\l.length<n+i/\o.length<=i/\o.length<=400)/\(z≠0->Hy (RR=(o,z,i))))
  (fun _ _ _ wr=>MM b (l.length+1) wr)
 case atStart=>exact⟨_,0,[],l.length+1,i0,0,rfl,by simp,Y9.o,fun _=>⟨HRR.o,by omega,ax _,by simp⟩,fun h=>aX rfl h⟩
 case round=>
  clear Y9 HRR;obtain⟨A,c,o,n,i,z,rfl,ho1,ST,zR,rq⟩:=hrel;have HME:=bD (vA ST.o (l.length+1));obtain⟨c0,c1,c2⟩:=nw ST.o.hB;by_cases hz:z=0
  ·subst hz;obtain⟨HR,hn,hoi,ho4⟩:=zR rfl;clear zR rq;by_cases hi:i<l.length
   ·obtain⟨bb,off,rfl,⟨PO,mP⟩,zu⟩:=ub.o (by rintro rfl;simp at hi);obtain⟨va,k0,k1,k2,vC⟩:=zu i hi;have tK:some bb≠some b:=fun e=>M8.o bb PO (ar e);have e0:wr.cell? ⟨bb,off+i*3,none⟩=some (.int .i64 l[i].kind):=(aW (w:=w) (a:=⟨bb,off+i*3,none⟩) (ST.o.hg.block bb mP tK)).trans k0;have e1:wr.cell? ⟨bb,off+i*3+1,none⟩=some (.string (bs l[i].text)):=(aW (w:=w) (a:=⟨bb,off+i*3+1,none⟩) (ST.o.hg.block bb mP tK)).trans k1;have e2:wr.cell? ⟨bb,off+i*3+2,none⟩=some va:=(aW (w:=w) (a:=⟨bb,off+i*3+2,none⟩) (ST.o.hg.block bb mP tK)).trans k2;have hln:l[i]?=some l[i]:=aB hi;have UI:Hy (l[i].text.length<=100000000):=HTX.o _ (List.getElem_mem hi);obtain⟨n,rfl⟩:∃n',n=n'+1:=⟨n-1,by have:=wh Wn.o;omega⟩;rw[lJ,hln]at HR;simp only at HR;obtain⟨Av,cv,rfl,-,-,-⟩:=dV vC;have SM:=bD vC;have hii:decide (i<l.length)=true:=aS hi;have X9:(0:Int)<=(i:Int):=by omega
    have hi2:(i:Int)<(l.length:Int):=by omega
    have hi3:(i:Int)<=4000000:=by omega
    clear zu k0 k1 k2 vC tK PO mP hln;generalize l[i]=t at*;go_upto_region 3 with(go_quiet (fail))
    have xU:=bD (ST.o.drewN nq);have e3:(wr.drewN nq).cell? ⟨bb,off+i*3,none⟩=some (.int .i64 t.kind):=e0;have e4:(wr.drewN nq).cell? ⟨bb,off+i*3+1,none⟩=some (.string (bs t.text)):=e1;have e5:(wr.drewN nq).cell? ⟨bb,off+i*3+2,none⟩=some (.slice Av t.bK.length cv):=e2;clear e0 e1 e2 c0 c1 c2;generalize wr.drewN nq=W1 at xU e3 e4 e5|-;have c0:W1.cell? ⟨b,0,none⟩=some (.slice (some ⟨bb,off,none⟩) l.length cl):=xU.o.hB.cell 0;have c1:W1.cell? ⟨b,1,none⟩=some (.int .i64 i):=xU.o.hB.cell 1;have hA:Below W1.heap.size W1 (W1.alloc (.cells #[.int .i64 0,.string ⟨#[]⟩,.slice none 0 0] 75)):=cU _ _;have g0:=(hA.cell (p:=⟨b,0,none⟩) xU.o.hB.lt).trans c0;have g1:=(hA.cell (p:=⟨b,1,none⟩) xU.o.hB.lt).trans c1;have g3:=(hA.cell (p:=⟨bb,off+i*3,none⟩) (aq W1 _ e3)).trans e3;have g4:=(hA.cell (p:=⟨bb,off+i*3+1,none⟩) (aq W1 _ e4)).trans e4;have g5:=(hA.cell (p:=⟨bb,off+i*3+2,none⟩) (aq W1 _ e5)).trans e5;clear hA;go_region;have hT0:=bL.new W1 75 #[.int .i64 t.kind,.string (bs t.text),.slice Av t.bK.length cv];have pr:Hy (bL (W1.alloc (.cells #[.int .i64 t.kind,.string (bs t.text),.slice Av t.bK.length cv] 75)).drew W1.heap.size 75 #[.int .i64 t.kind,.string (bs t.text),.slice Av t.bK.length cv]):=hT0.drew;have fZ:=bD (xU.o.below ((cU _ (.cells #[.int .i64 t.kind,.string (bs t.text),.slice Av t.bK.length cv] 75)).drew));have HTB:Hy (W1.heap.size≠b):=fun e=>by have:=xU.o.hB.lt;omega
    clear g0 g1 g3 g4 g5 c0 c1 e3 e4 e5 hT0 xU ST;generalize(W1.alloc (.cells #[.int .i64 t.kind,.string (bs t.text),.slice Av t.bK.length cv] 75)).drew=W2 at pr fZ|-;generalize W1.heap.size=T at pr HTB|-;have c1:W2.cell? ⟨b,1,none⟩=some (.int .i64 i):=fZ.o.hB.cell 1;have c2:=fZ.o.hB.cell 2;have f1:=fZ.o.hB.frozen 1;have f2:=fZ.o.hB.frozen 2;by_cases h4:400<=i
    ·have h4i:(400:Int)<=(i:Int):=by omega
     rw[ae h4]at HR;clear h4;go_wp2_with fail;go_ret;exact(fZ.o.XS 4).post HR.o
    ·have h4i:¬(400:Int)<=(i:Int):=by omega
     rw[aa h4]at HR;go_upto_region 8 with(fail)
     have AU:Hy (zL w (W2.setCell ⟨b,1,none⟩ (.int .i64 ((i:Int)+1))) b (some ⟨bb,off,none⟩) l.length cl (i+1) 0 (.slice A o.length c) o):=fZ.o.ay9 (i+1);have wy:Hy (bL (W2.setCell ⟨b,1,none⟩ (.int .i64 ((i:Int)+1))) T 75 #[.int .i64 t.kind,.string (bs t.text),.slice Av t.bK.length cv]):=pr.o.gf HTB.o _;clear fZ pr c1 c2 f1 f2;generalize W2.setCell ⟨b,1,none⟩ (.int .i64 ((i:Int)+1))=W3 at AU wy|-;have HI:Hy (i<400):=by rw[Hy];omega
     obtain⟨t0,t1,t2⟩:=nw wy.o;clear h4 h4i;by_cases fA:t.kind=2
     ·have az0:(t.kind==2)=true:=by rw[fA];rfl
      rw[ae fA]at HR;clear fA;go_wp2_with fail;refine(Pr b (some ⟨bb,off,none⟩) l.length cl ((i+1:Nat):Int) t.kind (bs t.text) Av t.bK.length cv ej name A o.length c W3 (by omega) AU.o.hB).mono ?_;rw[eB];rintro e w4 ⟨rfl,eY,pc⟩;have nA:=bD (AU.o.grown pc eY);clear eY pc;go_wp2_with fail;go_ret;exact nA.o.post HR.o
     ·have az0:(t.kind==2)=false:=ai.2 fA;rw[aa fA]at HR;clear fA;by_cases nE:t.kind=1\/t.kind=3
      ·rw[ae nE]at HR;have az1:(t.kind==1)=true\/(t.kind==1)=false/\(t.kind==3)=true:=by
        rcases nE with h|h
        ·exact .inl (by rw[h];rfl)
        ·exact .inr ⟨by rw[h];rfl,by rw[h];rfl⟩
       clear nE;have ap3:GR W3 (fun g=>F g/\g<w.heap.size) (.row 2 (t.bK.map bY.gv)) [.slice Av t.bK.length cv]:=
        GR.mono (fun _ h=>h) (fun g hg bW=>AU.o.hg.block g bW (fun e=>M8.o g hg.1 (ar e))) _ _ SM.o
       have HBC:=bD (Gl b (some ⟨bb,off,none⟩) l.length cl (i+1) t.kind (bs t.text) t.bK _ ej o _ dn sub _ _ W3 hd AU.o.hB ap3 (AU.o.own.gr (F:=fun g=>w.heap.size<=g) (fun _ h=>h) (fun k hk=>(AU.o.own.lt k hk).1))
        (fun hdn W k hgW hBW=>Q9.o hdn W k (bs t.text) (i+1) (dR AU.o.hg hgW (fun k hk=>.inl hk)) hBW))
       rw[eB]at HBC;have qT:=bD (ML Wn.o (decide (dn<16)) t ej o (i+1));rw[show(⟨t.kind,t.text,t.bK⟩:bG)=t from rfl]at HBC;have HMS:Hy (MM b (l.length+1) wr=l.length+1-i):=HME.o;generalize mx sub (decide (dn<16)) t ej o (i+1)=q at*;obtain⟨x,zx,ix⟩:=q;clear ap3;rcases az1 with ap4|⟨ap4,ap1⟩
       all_goals
        go_wp2_with fail;refine HBC.o.mono ?_;rintro e w4 ⟨⟨A4,c4,rfl,pc⟩,eY,MJ⟩;simp only at pc eY HR qT|-;have nA:=bD (AU.o.grown MJ eY);have hG:∀k,W3.heap.size<=k->w.heap.size<=k/\some k≠(Value.slice A o.length c).ownBlock:=fun k hk=>⟨au AU.o.hg.size hk,fun e=>by have:=(AU.o.own.lt k e.symm).2;omega⟩;have HA:=bD (Vz nA.o pc hG rfl (by omega) #[.int .i64 x.kind,.string (bs x.text),.string (bs x.src),.string (bs x.jZ),.bool x.fp,.string (bs x.test),.slice A4 x.bE.length c4] rfl);have fV:=bD (nA.o.below ((cU _ (.cells #[.int .i64 x.kind,.string (bs x.text),.string (bs x.src),.string (bs x.jZ),.bool x.fp,.string (bs x.test),.slice A4 x.bE.length c4] 62)).alloc (by rw[size_alloc];omega) (.cells #[.int .i64 x.kind,.string (bs x.text),.string (bs x.src),.string (bs x.jZ),.bool x.fp,.string (bs x.test),.slice A4 x.bE.length c4] 62)));clear pc eY MJ hG HBC t0 t1 t2;simp only[dp];go_wp2_with (at_builtin;go_loud (refine HA.o.plain rfl _ _ _ rfl Qa rfl rfl ?_);intro A6 c6 w6 bZ cO fG;have gd:Hy (zL w w6 b (some ⟨bb,off,none⟩) l.length cl ix zx (.slice A6 (o.length+1) c6) (o++[x])):=fV.o.push cO bZ;clear bZ cO fG);go_roundw
        case rel=>
         refine⟨A6,c6,o++[x],n,ix,zx,by rw[af];rfl,by rw[af];simp only[ak,aD];omega,gd.o,fun hz=>?_,fun hz=>?_⟩
         ·rw[ae hz]at HR;have:=qT.o;exact⟨HR.o,by omega,by rw[af];simp only[ak,aD];omega,by rw[af];simp only[ak,aD];have:=HI.o;omega⟩
         ·rw[aa hz]at HR;exact HR.o
        case measure=>
         rw[vA gd.o,HMS.o];have:=qT.o;omega
      ·have ap4:(t.kind==1)=false:=ai.2 (fun h=>nE (.inl h));have ap1:(t.kind==3)=false:=ai.2 (fun h=>nE (.inr h));rw[aa nE]at HR;have HMS:Hy (MM b (l.length+1) wr=l.length+1-i):=HME.o;clear nE;by_cases Ma:ej=4\/ej=7
       ·rw[ae Ma]at HR;have az2:(ej==4)=true\/(ej==4)=false/\(ej==7)=true:=by
         rcases Ma with h|h
         ·exact .inl (by rw[h];rfl)
         ·exact .inr ⟨by rw[h];rfl,by rw[h];rfl⟩
        have HBK:=bD (Gj (bs t.text) W3 (by rw[bJ];exact UI.o));rw[eB]at HBK;clear Ma;generalize t.text.all cV=bk at*;have c2:=AU.o.hB.cell 2;have f2:=AU.o.hB.frozen 2;rcases az2 with h4b|⟨h4b,h7b⟩
        all_goals
         go_wp2_with fail;refine HBK.o.mono ?_;rintro e w4 ⟨rfl,rfl⟩;cases bk with
         |true=>
          go_wp2_with fail;go_roundw
          case rel=>exact⟨_,c,o,n,i+1,0,rfl,ho1,AU.o,fun _=>⟨HR.o,by omega,by omega,ho4⟩,fun h=>aX rfl h⟩
          case measure=>
           rw[vA AU.o,HMS.o];omega
         |false=>
          go_wp2_with fail;go_roundw
          case rel=>exact⟨_,c,o,n,i+1,42,rfl,ho1,AU.o.XS 42,fun h=>aX h (by decide),fun _=>HR.o⟩
          case measure=>
           rw[vA (AU.o.XS 42),HMS.o];omega
       ·rw[aa Ma]at HR;have h4b:(ej==4)=false:=ai.2 (fun h=>Ma (.inl h));have h7b:(ej==7)=false:=ai.2 (fun h=>Ma (.inr h));have HA:=bD (VA AU.o rfl (by omega) t.text);have fV:=bD (AU.o.below (cU _ (.cells #[.int .i64 1,.string (bs t.text),.string ⟨#[]⟩,.string ⟨#[]⟩,.bool false,.string ⟨#[]⟩,.slice none 0 0] 62)));clear Ma;go_wp2_with (at_builtin;go_loud (refine HA.o.plain rfl _ _ _ rfl Qa rfl rfl ?_);intro A6 c6 w6 bZ cO fG;have gd:Hy (zL w w6 b (some ⟨bb,off,none⟩) l.length cl (i+1) 0 (.slice A6 (o.length+1) c6) (o++[dH t.text])):=fV.o.push cO bZ;clear bZ cO fG);go_roundw
        case rel=>
         have:=HI.o;exact⟨A6,c6,o++[dH t.text],n,i+1,0,by rw[af];rfl,by rw[af];simp only[ak,aD];omega,gd.o,fun _=>⟨HR.o,by omega,by rw[af];simp only[ak,aD];omega,by rw[af];simp only[ak,aD];omega⟩,fun h=>aX rfl h⟩
        case measure=>
         rw[vA gd.o,HMS.o];omega
   ·have It:Hy (RR=(o,if L name≠[]then 42 else 0,i)):=by
     have h1:l[i]?=none:=List.getElem?_eq_none (by omega);rw[Hy,HR.o];cases n with
     |zero=>rw[lJ]
     |succ n=>rw[lJ,h1]
    have hii:decide (i<l.length)=false:=aT hi;have hnt:name.toList=L name:=cw name;clear HR hn hi;cases db:(L name).isEmpty with
    |true=>
     have Cn:Hy (RR=(o,0,i)):=It.o.trans (by rw[List.isEmpty_iff.1 db];rfl);clear It;go_wp2_with (go_quiet (fail));go_ret;exact(ST.o.drewN _).post Cn.o
    |false=>
     have Cn:Hy (RR=(o,42,i)):=It.o.trans (by rw[ae (fun h=>by rw[h]at db;cases db)]);clear It;have f2:=ST.o.hB.frozen 2;go_wp2_with (go_quiet (fail));go_ret;exact((ST.o.drewN _).XS 42).post Cn.o
  ·have Cn:=rq hz;have hzb:(z==0)=false:=ai.2 hz;clear zR rq hz;go_wp2_with (go_quiet (fail));go_ret;exact(ST.o.drewN _).post Cn.o
theorem vB(b:Nat)(l:List bG)(Al:Option Addr)(cl:Nat)(F:Nat->Prop)(w0:World)(fH:l.length<=4000000)(htx:∀t∈l,t.text.length<=100000000)(hF:∀g,F g->g≠b)
 (hv:GR w0 F (.row 3 (l.map bG.gv)) [.slice Al l.length cl]):∀(d:Nat) (ej:Int) (name:ByteArray) (i:Nat) (w:World),d<=16->w0.grownBy w (some b)->bL w b 84 #[.slice Al l.length cl,.int .i64 i,.int .i64 0]->
  Calls prog 29 #[.pointer (some ⟨b,0,none⟩),.int .i64 ej,.string name,.int .i64 ((16-d:Nat):Int)] w (Qs b (.slice Al l.length cl) w (mh l d ej (L name) i))
 |0,ej,name,i,w,_,hg,hb=>by
  have h:=BZ b l Al cl ej name 16 i (fun _ _ i=>([],0,i)) (fun g=>F g/\g<w0.heap.size) w (dv _) (fun _ _ i=>dv i) hb (GR.mono (fun _ h=>h) (fun g uc bW=>hg.block g bW (fun e=>hF g uc.1 (ar e))) _ _ (GR.du _ _ hv)) (fun g uc=>hF g uc.1) fH htx (fun h=>aX h (Nat.lt_irrefl _));exact h
 |d+1,ej,name,i,w,hd,hg,hb=>by
  have h:=BZ b l Al cl ej name (16-(d+1)) i (mh l d) (fun g=>F g/\g<w0.heap.size) w (Nat.sub_le _ _) (Ic l d) hb (GR.mono (fun _ h=>h) (fun g uc bW=>hg.block g bW (fun e=>hF g uc.1 (ar e))) _ _ (GR.du _ _ hv)) (fun g uc=>hF g uc.1) fH htx
   (fun _ W k tx j hgW VM=>by
    have ih:=vB b l Al cl F w0 fH htx hF hv d k tx j W (by omega) (dR hg hgW (fun k hk=>.inl hk)) VM;rw[show((16-d:Nat):Int)=((16-(d+1):Nat):Int)+1 by omega]at ih;exact ih)
  rw[aS (show 16-(d+1)<16 by omega)]at h;exact h
end Go.Proofs.YtejafaaihodehaaGreatDoor
