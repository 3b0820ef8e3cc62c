/- Part 17. -/
import Derived.Test.YtejafaaihodehaaGreatDoorZ16
set_option linter.all false
set_option maxRecDepth 100000
set_option maxHeartbeats 8000000
namespace Go.Proofs.YtejafaaihodehaaGreatDoor
open Go Go.RowKit Tryz
theorem LJ:kJ prog 42 9 1 16:=by
 obtain⟨i0,hi,zR,rq,vF⟩:=qF (show(prog.info? 9).map (fun i=>(i.zero,i.size,i.bytes))=some (some (.string (bs [])),1,16) by kernel_rfl);exact⟨i0,_,underlying42,hi,zR,rq,vF,rfl,by omega⟩
def DO(W:World)(base:Nat)(v:Value)(o:List Bt):Prop:=b8 W base 9 1 (fun _=>False) v (o.map .str)
theorem Qb{w w':World}{F F':Nat->Prop}:∀{l:List Bt} {xs:List Value},fW w F 1 (l.map .str) xs->fW w' F' 1 (l.map .str) xs
 |[],xs,h=>by
  rw[List.map_nil,jt]at h;subst h;exact jt.2 rfl
 |s::l,xs,h=>by
  rw[List.map_cons]at h;obtain⟨a,b,rfl,h1,h2,h3⟩:=gF.1 h;rw[List.map_cons];exact gF.2 ⟨a,b,rfl,h1,eQ.2 (eQ.1 h2),Qb h3⟩
section
variable {w W:World} {base:Nat} {v:Value} {o:List Bt}
theorem Qc{N:Nat}(ho:DO W base v o)(hb:base<=W.heap.size)(hN:N=o.length)(fH:o.length<=99999)(s:Bt):
 tm (W.alloc (.cells #[.string (bs s)] 9)) base 9 1 16 (fun _=>False) v (o.map .str) (some ⟨W.heap.size,0,none⟩) 1 [.str s] [.string (bs s)] (N+1):=by
 subst hN;have key:=tm.sE (bytes:=16) (size:=1) (x:=.str s) (b8.below ho (cU _ (.cells #[.string (bs s)] 9))) (bL.new W 9 [.string (bs s)].toArray) (eQ.2 rfl) rfl (by rw[ah];omega) (by omega) (by rw[size_alloc];omega);rw[ah]at key;exact key
theorem UD{al3 N M:Nat}{A:Option Addr}{c:Nat}{m:List Bt}(ho:DO W base v o)(hb:base<=W.heap.size)(h2:DO W al3 (.slice A M c) m)(hN:N=o.length)(hM:M=m.length)(fH:o.length+m.length<=100000):
 ∃news,tm W base 9 1 16 (fun _=>False) v (o.map .str) A M (m.map .str) news (N+M):=by
 subst hN hM;have hr:=b8.gr (F:=fun _=>True) h2 (fun _ h=>h.elim) (fun _ _=>trivial);obtain⟨A',c',xs,h1,k2,h3,h4,h5,h6⟩:=jR.1 hr;simp only[List.cons.injEq,and_true]at h1;injection h1 with e1 e2 e3
 subst e1 e3;refine⟨xs,ho,by rw[ah],h5,Qb h6,?_,?_,hb,by rw[af,ah,ah]⟩
 ·rw[ah,ah];simp only[maxLen];omega
 ·rw[ah,ah];omega
structure LS(w W:World)(g:Nat)(x:Elem)(kv v:Value)(o:List Bt):Prop where
 hb:Below w.heap.size w W
 ho:DO W w.heap.size v o
 hg:w.heap.size<=g
 hc:bL W g 62 (dp x kv).toArray
 db:v.ownBlock≠some g
variable {g:Nat} {x:Elem} {kv:Value}
theorem LS.c0(h:LS w W g x kv v o):W.cell? ⟨g,0,none⟩=some (.int .i64 x.kind):=h.hc.cell 0
theorem LS.c2(h:LS w W g x kv v o):W.cell? ⟨g,2,none⟩=some (.string (bs x.src)):=h.hc.cell 2
theorem LS.c3(h:LS w W g x kv v o):W.cell? ⟨g,3,none⟩=some (.string (bs x.jZ)):=h.hc.cell 3
theorem LS.c6(h:LS w W g x kv v o):W.cell? ⟨g,6,none⟩=some kv:=h.hc.cell 6
theorem LS.start(hb:Below w.heap.size w W)(ho:DO W w.heap.size v o)(x:Elem)(kv:Value)(C:Array Value)(hC:C=(dp x kv).toArray):LS w (W.alloc (.cells C 62)) W.heap.size x kv v o:=by
 subst hC;exact⟨hb.alloc hb.size _,b8.below ho (cU _ _),hb.size,bL.new _ _ _,fun e=>by have:=(b8.lt ho _ e).2;omega⟩
theorem LS.app(h:LS w W g x kv v o){N:Nat}(hN:N=o.length)(fH:o.length<=99999)(s:Bt):
 tm (W.alloc (.cells #[.string (bs s)] 9)) w.heap.size 9 1 16 (fun _=>False) v (o.map .str) (some ⟨W.heap.size,0,none⟩) 1 [.str s] [.string (bs s)] (N+1):=Qc h.ho h.hb.size hN fH s
theorem LS.push(h:LS w W g x kv v o)(s:Bt){N c':Nat}{A':Option Addr}{w':World}(h1:b8 w' w.heap.size 9 1 (fun _=>False) (.slice A' N c') (o.map .str++[.str s]))
 (h2:(W.alloc (.cells #[.string (bs s)] 9)).grownBy w' v.ownBlock) (h3:(Value.slice A' N c').ownBlock=v.ownBlock\/(Value.slice A' N c').ownBlock=some (W.alloc (.cells #[.string (bs s)] 9)).heap.size):LS w w' g x kv (.slice A' N c') (o++[s]):=by
 have hs:=h.hb.size;refine⟨(h.hb.alloc hs _).trans (bN h2 (by rw[size_alloc];omega) (fun k hk=>(b8.lt h.ho k hk).1)),?_,h.hg,(h.hc.alloc _).grown h2 (fun e=>h.db e.symm),?_⟩
 ·rw[DO,aK];exact h1
 ·rcases h3 with h3|h3
  ·rw[h3];exact h.db
  ·rw[h3];intro e;have e:=ar e;rw[size_alloc]at e;have:=h.hc.lt;omega
end
theorem LK(l:List Elem)(k:Nat)(h:k<l.length):dZ (l.take (k+1))=(dZ (l.take k)++ij l[k])++dZ l[k].bE:=by
 rw[aC h,qS];simp only[dZ,Gy,List.append_nil,aN]
theorem uQ(l:List Elem)(k:Nat):(dZ (l.take k)).length<=(dZ l).length:=by
 have e:dZ l=dZ (l.take k)++dZ (l.drop k):=by rw[<-qS,bt]
 rw[e,af];omega
def RH(l:List Elem)(w:World)(e:Ending)(w':World):Prop:=∃v',e=.returned v'/\DO w' w.heap.size v' (dZ l)/\Below w.heap.size w w'
theorem yY:∀(n:Nat) (l:List Elem) (v:Value) (F:Nat->Prop) (w:World),fC l<=n->n<=1000->GR w F (.row 7 (l.map Elem.gv)) [v]->
 Calls prog 11 #[v] w (RH l w):=by
 intro n;induction n using Nat.strongRecOn with
 |ind n ih=>
  intro l v F w hn aA0 hv;obtain⟨A,c,rfl,zQ,mz,dS⟩:=dW (GR.du _ _ hv);have ub:=bD dS;have IH:=bD ih;have QF:Hy ((dZ l).length<=2000):=by have:=xx (fC l) l (dv _);rw[Hy];omega
  clear dS hv ih;have nz:Hy (Below w.heap.size w (w.alloc (.cells #[] 9))):=cU _ _;have YX:Hy (DO (w.alloc (.cells #[] 9)) w.heap.size (.slice (some ⟨w.heap.size,0,none⟩) 0 0) (dZ (l.take 0))):=
   ⟨[],World.ownsRow_lit w #[] 0 (dv _) (by simp[maxLen]) (by simp),jt.2 rfl⟩
  unfold maxLen at mz;go_enter func11,ntmps11;go_wp2_with fail;go_loopw [3,5,9] (fun v _ i wr=>∃k:Nat,k<=l.length/\i=.int .i64 k/\Hy (Below w.heap.size w wr)/\Hy (DO wr w.heap.size v (dZ (l.take k))))
   (fun _ _ i wr=>l.length-(intOf i).toNat)
  case atStart=>exact⟨0,ax _,rfl,nz.o,YX.o⟩
  case round=>
   clear nz YX;obtain⟨k,hk,rfl,HB,HO⟩:=hrel;by_cases bW:k<l.length
   ·obtain⟨b,off,rfl,⟨_,tT⟩,dS⟩:=ub.o (by rintro rfl;simp at bW);obtain⟨Ak,ck,hE⟩:=dS k bW;have VK:=bD hE.bE;have hE:=hE.below HB.o tT;have e0:=hE.c0;have e1:=hE.c1;have e2:=hE.c2;have e3:=hE.c3;have e4:=hE.c4;have e5:=hE.c5;have e6:=hE.c6;clear hE dS tT;have HT:=bD (LK l k bW);have Fz:=au (uQ l k) QF.o;have lQ:fC l[k].bE<n:=by have h1:=nU bW;have h2:=j8 l[k];omega
    have po:(dZ (l.take k)).length+(ij l[k]).length+(dZ l[k].bE).length<=2000:=by
     have h1:=au (uQ l (k+1)) QF.o;rw[HT.o,af,af]at h1;exact h1
    generalize l[k]=x at*;generalize dZ (l.take k)=o at*;obtain⟨Ao,co,hvo⟩:=b8.form HO.o;subst hvo;rw[ah]at HO|-;obtain⟨N,Xq⟩:∃N,N=o.length:=⟨_,rfl⟩;rw[<-Xq]at HO po Fz|-;have BD:=bD Xq;have HOK:=bD po;have xy:=bD lQ;clear Xq po lQ;go_upto_region 5 with(fail)
    have HL:=bD (LS.start HB.o HO.o x (.slice Ak x.bE.length ck) #[.int .i64 x.kind,.string (bs x.text),.string (bs x.src),.string (bs x.jZ),.bool x.fp,.string (bs x.test),.slice Ak x.bE.length ck] rfl);generalize wr.alloc (.cells #[.int .i64 x.kind,.string (bs x.text),.string (bs x.src),.string (bs x.jZ),.bool x.fp,.string (bs x.test),.slice Ak x.bE.length ck] 62)=w5 at*;generalize wr.heap.size=X at*;clear HB HO e0 e1 e2 e3 e4 e5 e6;have c0:=HL.o.c0;have c2:=HL.o.c2;have c3:=HL.o.c3;go_upto_if 15 with(fail)
    go_cut [3]from 15 to 28 (fun v wx=>Hy (LS w wx X x (.slice Ak x.bE.length ck) v (o++ij x)))
    case first=>
     by_cases h2:x.kind=2
     ·have fA:(x.kind==2)=true:=by rw[h2];rfl
      have HA:=bD (HL.o.app BD.o (by rw[<-BD.o];omega) x.src);have No:Hy (∀A' c' w',b8 w' w.heap.size 9 1 (fun _=>False) (.slice A' (N+1) c') (o.map .str++[.str x.src])->(w5.alloc (.cells #[.string (bs x.src)] 9)).grownBy w' (Value.slice Ao N co).ownBlock->
       ((Value.slice A' (N+1) c').ownBlock=(Value.slice Ao N co).ownBlock\/(Value.slice A' (N+1) c').ownBlock=some (w5.alloc (.cells #[.string (bs x.src)] 9)).heap.size)->LS w w' X x (.slice Ak x.bE.length ck) (.slice A' (N+1) c') (o++[x.src])):=fun A' c' w' h1 h2 h3=>HL.o.push _ h1 h2 h3
      have NH:Hy (N+1=(o++[x.src]).length):=by rw[Hy,af,<-BD.o];rfl
      clear h2;by_cases h3:x.jZ=[]
      ·have cu:(bs x.jZ).toList.isEmpty=true:=by rw[h3,bQ];rfl
       have fm:(bs x.jZ).toList=[]:=by rw[h3,bQ]
       have tU:Hy (ij x=[x.src]):=by rw[Hy,ij,ae (by simpa using fA),ae h3]
       clear h3;go_wp2_with (at_builtin;go_loud (refine HA.o.plain rfl _ _ _ rfl LJ rfl rfl ?_);intro A6 c6 w6 bZ cO fG;have HL6:=bD (No.o _ _ _ bZ cO fG);have d3:=HL6.o.c3;clear bZ cO fG);go_meet
       case rel=>rw[tU.o];exact HL6.o
      ·have cu:(bs x.jZ).toList.isEmpty=false:=by rw[bQ];cases h:x.jZ with|nil=>exact aX h h3|cons _ _=>rfl
       have fm:¬(bs x.jZ).toList=[]:=by rw[bQ];exact h3
       have tU:Hy (ij x=[x.src]++[x.jZ]):=by rw[Hy,ij,ae (by simpa using fA),aa h3];rfl
       clear h3;go_wp2_with (at_builtin;first|(go_loud (refine HA.o.plain rfl _ _ _ rfl LJ rfl rfl ?_);intro A6 c6 w6 bZ cO fG;have HL6:=bD (No.o _ _ _ bZ cO fG);have d3:=HL6.o.c3;have Ye:=bD (HL6.o.app NH.o (by rw[<-NH.o];omega) x.jZ);clear bZ cO fG)|(go_loud (refine Ye.o.plain rfl _ _ _ rfl LJ rfl rfl ?_);intro A7 c7 w7 bZ cO fG;have Lo:=bD (HL6.o.push _ bZ cO fG);clear bZ cO fG));go_meet
       case rel=>rw[tU.o,<-aN];exact Lo.o
     ·have fA:(x.kind==2)=false:=by rw[ai];exact h2
      have tU:Hy (ij x=[]):=by rw[Hy,ij,aa h2]
      clear h2;go_wp2_with fail;go_meet
      case rel=>rw[tU.o,List.append_nil];exact HL.o
    case rest=>
     clear c0 c2 c3 HL;have HL:=hcut;clear hcut;obtain⟨Ap,cp,hvp⟩:=b8.form HL.o.ho;subst hvp;rw[ah]at HL|-;obtain⟨M,hM⟩:∃M,M=(o++ij x).length:=⟨_,rfl⟩;rw[<-hM]at HL|-;have HM:=bD hM;clear hM;have c6:=HL.o.c6;have Kc:=bD (VK.o.below HL.o.hb);go_wp2_with fail;refine(IH.o _ xy.o x.bE _ _ _ (dv _) (by have:=xy.o;omega) Kc.o).mono ?_;rintro e w7 ⟨v7,rfl,ho7,lH⟩;obtain⟨A7,c7,hv7⟩:=b8.form ho7;subst hv7;rw[ah]at ho7|-;obtain⟨Q,hQ⟩:∃Q,Q=(dZ x.bE).length:=⟨_,rfl⟩;rw[<-hQ]at ho7|-;have Fo:Hy (DO w7 w.heap.size (.slice Ap M cp) (o++ij x)):=b8.below HL.o.ho lH;obtain⟨news,hA⟩:=UD Fo.o (au HL.o.hb.size lH.size) ho7 HM.o hQ (by rw[af,<-BD.o];have:=HOK.o;omega);have HA:=bD hA;have Iw:=bD (HL.o.hb.trans (lH.mono HL.o.hb.size));clear ho7 lH hA hQ;go_wp2_with (at_builtin;go_loud (refine HA.o.plain rfl _ _ _ rfl LJ rfl rfl ?_);intro A8 c8 w8 bZ cO fG;have HO8:=bD bZ;have HG8:=bD cO;clear bZ cO fG);go_roundw
     case rel=>exact⟨k+1,bW,by go_num,Iw.o.trans (bN HG8.o Iw.o.size (fun q hq=>(b8.lt Fo.o q hq).1)),by rw[HT.o,DO,aK];exact HO8.o⟩
     case measure=>simp[intOf];omega
   ·have ln:k=l.length:=by omega
    subst ln;rw[aM]at HO;go_wp2_with fail;go_ret;exact⟨_,rfl,HO.o,HB.o⟩
theorem RI{w:World}{F:Nat->Prop}{l:List Bt}{v:Value}(h:GR w F (.row 1 (l.map .str)) [v]):
 ∃A c,v=.slice A l.length c/\l.length<=c/\c<=maxLen/\(l≠[]->∃b o,A=some ⟨b,o,none⟩/\F b/\∀i (hi:i<l.length),w.cell? ⟨b,o+i,none⟩=some (.string (bs l[i]))):=by
 obtain⟨A,c,h1,h2,h3,h4⟩:=pK h (by omega);simp only[ah]at h1 h2 h4;refine⟨A,c,h1,h2,h3,fun db=>?_⟩;obtain⟨b,o,hA,hF,hc⟩:=h4 (by simpa using db);refine⟨b,o,hA,hF,fun i hi=>?_⟩;obtain⟨cs,g1,_,g3⟩:=hc i hi;rw[List.getElem_map,eQ]at g1;subst g1;have:=g3 0 _ rfl;rw[Nat.mul_one,Nat.add_zero]at this;exact this
end Go.Proofs.YtejafaaihodehaaGreatDoor
