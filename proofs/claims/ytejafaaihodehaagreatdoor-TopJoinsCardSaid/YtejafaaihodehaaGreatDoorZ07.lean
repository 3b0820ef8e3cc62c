/- Part 7. -/
import Derived.Test.YtejafaaihodehaaGreatDoorZ03
import Derived.WalkSmall
import Derived.Recover
import Derived.Defers
set_option linter.all false
set_option maxRecDepth 100000
set_option maxHeartbeats 8000000
namespace Go.Proofs.YtejafaaihodehaaGreatDoor
open Go Go.RowKit Tryz
inductive Elem where
 |mk (kind:Int) (text src jZ:Bt) (fp:Bool) (test:Bt) (bE:List Elem)
namespace Elem
def kind:Elem->Int|.mk k _ _ _ _ _ _=>k
def text:Elem->Bt|.mk _ t _ _ _ _ _=>t
def src:Elem->Bt|.mk _ _ s _ _ _ _=>s
def jZ:Elem->Bt|.mk _ _ _ a _ _ _=>a
def fp:Elem->Bool|.mk _ _ _ _ b _ _=>b
def test:Elem->Bt|.mk _ _ _ _ _ t _=>t
def bE:Elem->List Elem|.mk _ _ _ _ _ _ l=>l
def dD:Elem->List Elem->Elem|.mk k t s a b u _,l=>.mk k t s a b u l
def fF:Elem->Bool->Elem|.mk k t s a _ u l,b=>.mk k t s a b u l
def pQ:Elem->Bt->Elem|.mk k t _ a b u l,s=>.mk k t s a b u l
def xv:Elem->Bt->Elem|.mk k t s _ b u l,a=>.mk k t s a b u l
def sB:Elem->Bt->Elem|.mk k _ s a b u l,t=>.mk k t s a b u l
def sC:Elem->Bt->Elem|.mk k t s a b _ l,u=>.mk k t s a b u l
@[simp] theorem jU (e:Elem) (l:List Elem):(e.dD l).kind=e.kind:=by cases e;rfl
@[simp] theorem fP (e:Elem) (l:List Elem):(e.dD l).bE=l:=by cases e;rfl
@[simp] theorem Wt (e:Elem) (b:Bool):(e.fF b).kind=e.kind:=by cases e;rfl
@[simp] theorem yz (e:Elem) (b:Bool):(e.fF b).bE=e.bE:=by cases e;rfl
@[simp] theorem Yf (e:Elem) (b:Bool):(e.fF b).src=e.src:=by cases e;rfl
@[simp] theorem Yg (e:Elem) (s:Bt):(e.pQ s).kind=e.kind:=by cases e;rfl
@[simp] theorem Yh (e:Elem) (s:Bt):(e.pQ s).bE=e.bE:=by cases e;rfl
@[simp] theorem Yi (e:Elem) (s:Bt):(e.xv s).kind=e.kind:=by cases e;rfl
@[simp] theorem Yj (e:Elem) (s:Bt):(e.xv s).bE=e.bE:=by cases e;rfl
@[simp] theorem Wu (e:Elem) (s:Bt):(e.sB s).kind=e.kind:=by cases e;rfl
@[simp] theorem Wv (e:Elem) (s:Bt):(e.sB s).bE=e.bE:=by cases e;rfl
@[simp] theorem Ww (e:Elem) (s:Bt):(e.sC s).kind=e.kind:=by cases e;rfl
@[simp] theorem Wx (e:Elem) (s:Bt):(e.sC s).bE=e.bE:=by cases e;rfl
end Elem
mutual
def Elem.gv:Elem->GV|.mk k t s a b u l=>.agg [.int k,.str t,.str s,.str a,.bool b,.str u,.row 7 (yA l)]
def yA:List Elem->List GV|[]=>[]|e::l=>e.gv::yA l
end
theorem sD:∀l:List Elem,yA l=l.map Elem.gv
 |[]=>by simp[yA]
 |e::l=>by simp only[yA,List.map_cons,sD l]
def fi(k:Int):Elem:=.mk k [] [] [] false [] []
def dH(s:Bt):Elem:=.mk 1 s [] [] false [] []
def dI:Bt:=[105,110,99,108,117,100,101]
def dJ:Bt:=[99,111,109,109,101,110,116]
def df:Bt:=[105,110,108,105,110,101]
def iM:Bt:=[118,97,114,115]
def eC:Bt:=[114,101,109,111,118,101]
def mr:Bt:=[116,114,121]
def dK:Bt:=[97,116,116,101,109,112,116]
def eD:Bt:=[101,120,99,101,112,116]
def eE:Bt:=[99,104,111,111,115,101]
def iN:Bt:=[119,104,101,110]
def cP:Bt:=[111,116,104,101,114,119,105,115,101]
def kq:Bt:=[115,114,99]
def kN:Bt:=[97,108,116]
def cQ:Bt:=[111,110,101,114,114,111,114]
def iJ:Bt:=[99,111,110,116,105,110,117,101]
def fY:Bt:=[110,97,109,101]
def cq:Bt:=[102,101,116,99,104,97,98,108,101]
def yB:Bt:=[121,101,115]
def QK:Bt:=[110,111]
def jM:Bt:=[116,101,120,116]
def jN:Bt:=[116,101,115,116]
structure Ca where
 kind:Int
 alone:Bool
 ej:Int
def eW(s:Bt):Option Ca:=
 if s=dI then some ⟨2,true,0⟩
 else if s=dJ then some ⟨12,true,0⟩
 else if s=df then some ⟨3,false,0⟩
 else if s=iM then some ⟨10,false,0⟩
 else if s=eC then some ⟨11,false,0⟩
 else if s=mr then some ⟨4,false,0⟩
 else if s=dK then some ⟨5,false,4⟩
 else if s=eD then some ⟨6,false,4⟩
 else if s=eE then some ⟨7,false,0⟩
 else if s=iN then some ⟨8,false,7⟩
 else if s=cP then some ⟨9,false,7⟩
 else none
def kC(kd:Int)(e:Elem)(n v:Bt):Option Elem:=
 if kd=2 then
  if n=kq then(if v=[]then none else some (e.pQ v))
  else if n=kN then some (e.xv v)
  else if n=cQ then(if v=iJ then some (e.fF true)else none)
  else none
 else if kd=3 then
  if n=fY then(if v=[]then none else some (e.pQ v))
  else if n=cq/\(v=yB\/v=QK)then some e else none
 else if kd=12 then(if n=jM then some ((e.sB v).fF true)else none)
 else if kd=8 then(if n=jN then some ((e.sC v).fF true)else none)
 else none
def fv(kd:Int):Elem->List bY->List bY->Option Elem
 |e,_,[]=>some e
 |e,seen,p::l=>
  if seen.any (fun x=>x.name==p.name)then none
  else match kC kd e p.name p.value with
   |none=>none
   |some e'=>fv kd e' (seen++[p]) l
def kt(kd:Int)(e:Elem):Bool:=
 if kd=2\/kd=3 then decide (e.src≠[])else if kd=12\/kd=8 then e.fp else true
def gq(kd:Int)(e:Elem):Elem:=e.fF (e.fp&&decide (kd=2))
structure Level where
 e:Elem
 name:Bt
def jO(t:Elem)(kind ej:Int):Bool:=
 if t.kind=4 then decide (kind=5/\t.bE.length=0\/kind=6/\t.bE.length=1)
 else if t.kind=7 then decide ((kind=8\/kind=9/\0<t.bE.length)/\∀u,t.bE.getLast?=some u->u.kind≠9)
 else decide (ej=0)
def oT(t e:Elem):Elem:=if t.kind=11 then t else t.dD (t.bE++[e])
def kO:List Level->Elem->List Level
 |[],_=>[]
 |t::r,e=>⟨oT t.e e,t.name⟩::r
def mF(st:List Level)(t:bG):List Level × Int:=
 match st with
 |[]=>([],0)
 |u::r=>
  if u.e.kind=4\/u.e.kind=7 then(u::r,if t.text.all cV then 0 else 42)
  else(kO (u::r) (dH t.text),0)
def fw(st:List Level)(t:bG):List Level × Int:=
 match st,eW t.text with
 |[],_=>([],0)
 |st,none=>(st,40)
 |u::r,some q=>
  if q.alone≠decide (t.kind=3)then(u::r,40)
  else match fv q.kind (fi q.kind) [] t.bK with
   |none=>(u::r,41)
   |some e=>
    if kt q.kind e=false then(u::r,41)
    else if jO u.e q.kind q.ej=false then(u::r,42)
    else if q.alone then(kO (u::r) (gq q.kind e),0)
    else if 16<(u::r).length then(u::r,5)
    else(⟨gq q.kind e,t.text⟩::u::r,0)
def jA(st:List Level)(t:bG):List Level × Int:=
 match st,eW t.text with
 |[],_=>([],0)
 |st,none=>(st,40)
 |u::r,some q=>
  if q.alone then(u::r,40)
  else if r=[]\/u.name≠t.text\/u.e.kind=4/\u.e.bE.length≠2\/u.e.kind=7/\u.e.bE.length=0 then(u::r,42)
  else(kO r u.e,0)
def cD(st:List Level)(t:bG):List Level × Int:=
 if t.kind=1\/t.kind=3 then fw st t else if t.kind=2 then jA st t else mF st t
def bO:Nat->List Level->List bG->List Level × Int
 |_,st,[]=>(st,0)
 |i,st,t::l=>
  if 400<=i then(st,4)
  else if(cD st t).2≠0 then cD st t
  else bO (i+1) (cD st t).1 l
def dE(t:bG):bG:=if t.kind=1\/t.kind=2\/t.kind=3 then t else bS t.text
def ed(l:List bG):List bG:=eV (l.map dE)
def dN:Level:=⟨fi 0,[]⟩
def iO(l:List bG):List Elem × Int:=
 let z:=bO 0 [dN] (ed l)
 if z.2≠0 then([],z.2)
 else match z.1 with
  |[p]=>(p.e.bE,0)
  |_=>([],42)
def cM(s:Bt):List Elem × Int:=if(gH s).2≠0 then([],(gH s).2)else iO (gH s).1
def dp(e:Elem)(kv:Value):List Value:=[.int .i64 e.kind,.string (bs e.text),.string (bs e.src),.string (bs e.jZ),.bool e.fp,.string (bs e.test),kv]
theorem Nt{w:World}{F:Nat->Prop}{e:Elem}{cs:List Value}(h:GR w F e.gv cs):∃A c,cs=dp e (.slice A e.bE.length c)/\GR w F (.row 7 (e.bE.map Elem.gv)) [.slice A e.bE.length c]:=by
 obtain⟨k,tx,s,a,b,u,l⟩:=e;rw[Elem.gv,sD]at h;obtain⟨x0,y0,rfl,h0,g0⟩:=cd.1 (nN.1 h);obtain⟨x1,y1,rfl,h1,g1⟩:=cd.1 g0;obtain⟨x2,y2,rfl,h2,g2⟩:=cd.1 g1;obtain⟨x3,y3,rfl,h3,g3⟩:=cd.1 g2;obtain⟨x4,y4,rfl,h4,g4⟩:=cd.1 g3;obtain⟨x5,y5,rfl,h5,g5⟩:=cd.1 g4;obtain⟨x6,y6,rfl,h6,g6⟩:=cd.1 g5;rw[lK]at h0;rw[eQ]at h1 h2 h3 h5;rw[sr]at h4;rw[ma]at g6;subst h0 h1 h2 h3 h4 h5 g6;obtain⟨A,c,xs,h7,h8⟩:=jR.1 h6;rw[ah]at h7;subst h7;exact⟨A,c,rfl,h6⟩
theorem C0{w:World}{F:Nat->Prop}{e:Elem}{kv:Value}(h:GR w F (.row 7 (e.bE.map Elem.gv)) [kv]):GR w F e.gv (dp e kv):=by
 obtain⟨k,tx,s,a,b,u,l⟩:=e;rw[Elem.gv,sD];exact nN.2 (cd.2 ⟨[_],_,rfl,lK.2 rfl,cd.2 ⟨[_],_,rfl,eQ.2 rfl,cd.2 ⟨[_],_,rfl,eQ.2 rfl,cd.2 ⟨[_],_,rfl,eQ.2 rfl,cd.2 ⟨[_],_,rfl,sr.2 rfl,
  cd.2 ⟨[_],_,rfl,eQ.2 rfl,cd.2 ⟨[kv],[],rfl,h,ma.2 rfl⟩⟩⟩⟩⟩⟩⟩)
structure IC(w:World)(F:Nat->Prop)(b o:Nat)(e:Elem)(A:Option Addr)(c:Nat):Prop where
 c0:w.cell? ⟨b,o,none⟩=some (.int .i64 e.kind)
 c1:w.cell? ⟨b,o+1,none⟩=some (.string (bs e.text))
 c2:w.cell? ⟨b,o+2,none⟩=some (.string (bs e.src))
 c3:w.cell? ⟨b,o+3,none⟩=some (.string (bs e.jZ))
 c4:w.cell? ⟨b,o+4,none⟩=some (.bool e.fp)
 c5:w.cell? ⟨b,o+5,none⟩=some (.string (bs e.test))
 c6:w.cell? ⟨b,o+6,none⟩=some (.slice A e.bE.length c)
 bE:GR w F (.row 7 (e.bE.map Elem.gv)) [.slice A e.bE.length c]
theorem dW{w:World}{F:Nat->Prop}{l:List Elem}{v:Value}(h:GR w F (.row 7 (l.map Elem.gv)) [v]):
 ∃A c,v=.slice A l.length c/\l.length<=c/\c<=maxLen/\(l≠[]->∃b o,A=some ⟨b,o,none⟩/\F b/\∀i (hi:i<l.length),∃A' c',IC w F b (o+i*7) l[i] A' c'):=by
 obtain⟨A,c,h1,h2,h3,h4⟩:=pK h (by omega);simp only[ah]at h1 h2 h4;refine⟨A,c,h1,h2,h3,fun db=>?_⟩;obtain⟨b,o,hA,hF,hc⟩:=h4 (by simpa using db);refine⟨b,o,hA,hF,fun i hi=>?_⟩;obtain⟨cs,g1,_,g3⟩:=hc i hi;rw[List.getElem_map]at g1;obtain⟨A',c',rfl,hk⟩:=Nt g1;exact⟨A',c',g3 0 _ rfl,g3 1 _ rfl,g3 2 _ rfl,g3 3 _ rfl,g3 4 _ rfl,g3 5 _ rfl,g3 6 _ rfl,hk⟩
theorem IC.below{w w':World}{F:Nat->Prop}{b o:Nat}{e:Elem}{A:Option Addr}{c:Nat}(h:IC w F b o e A c)(hb:Below w.heap.size w w')(bW:b<w.heap.size):IC w' F b o e A c:=
 ⟨(hb.cell (p:=⟨b,o,none⟩) bW).trans h.c0,(hb.cell (p:=⟨b,o+1,none⟩) bW).trans h.c1,(hb.cell (p:=⟨b,o+2,none⟩) bW).trans h.c2,(hb.cell (p:=⟨b,o+3,none⟩) bW).trans h.c3,
  (hb.cell (p:=⟨b,o+4,none⟩) bW).trans h.c4,(hb.cell (p:=⟨b,o+5,none⟩) bW).trans h.c5,(hb.cell (p:=⟨b,o+6,none⟩) bW).trans h.c6,h.bE.below hb⟩
theorem Kw{w:World}{F:Nat->Prop}{sz:Nat}{l:List GV}{A:Option Addr}{n c:Nat}(h:GR w F (.row sz l) [.slice A n c])(k:Nat)(hk:k<=l.length):GR w F (.row sz (l.take k)) [.slice A k c]:=by
 obtain⟨A',c',xs,h1,h2,h3,h4,h5,h6⟩:=jR.1 h;simp only[List.cons.injEq,and_true]at h1;injection h1 with e1 e2 e3
 subst e1 e3;refine jR.2 ⟨A,c,xs.take (k*sz),?_,by rw[ay];omega,h3,?_,?_,h6.take k⟩
 ·rw[ay,Nat.min_eq_left hk]
 ·rw[ay,ay,h4,Nat.min_eq_left hk];exact Nat.min_eq_left (Nat.mul_le_mul_right sz hk)
 ·intro db;have CY:xs≠[]:=by rintro rfl;simp at db
  obtain⟨b,o,q1,q2,q3⟩:=h5 CY;refine⟨b,o,q1,q2,fun j u hu=>q3 j u ?_⟩;rw[List.getElem?_take]at hu;split at hu
  ·exact hu
  ·cases hu
def ij(e:Elem):List Bt:=if e.kind=2 then(if e.jZ=[]then[e.src]else[e.src,e.jZ])else[]
mutual
def C1:Elem->List Bt|.mk k t s a b u l=>ij (.mk k t s a b u l)++dZ l
def dZ:List Elem->List Bt|[]=>[]|e::l=>C1 e++dZ l
end
mutual
def Bh:Elem->Nat|.mk _ _ _ _ _ _ l=>1+fC l
def fC:List Elem->Nat|[]=>0|e::l=>Bh e+fC l
end
theorem Gy(e:Elem):C1 e=ij e++dZ e.bE:=by cases e;simp only[C1,Elem.bE]
theorem j8(e:Elem):Bh e=1+fC e.bE:=by cases e;simp only[Bh,Elem.bE]
theorem qS:∀(l m:List Elem),dZ (l++m)=dZ l++dZ m
 |[],m=>by simp[dZ]
 |e::l,m=>by simp only[aU,dZ];rw[qS l m,aN]
theorem yE:∀(l m:List Elem),fC (l++m)=fC l+fC m
 |[],m=>by simp[fC]
 |e::l,m=>by simp only[aU,fC];rw[yE l m,Nat.add_assoc]
theorem nU:∀{l:List Elem} {i:Nat} (h:i<l.length),Bh l[i]<=fC l
 |[],i,h=>by simp at h
 |e::l,0,h=>by simp only[List.getElem_cons_zero,fC];omega
 |e::l,i+1,h=>by
  simp only[List.getElem_cons_succ,fC];have:=nU (l:=l) (i:=i) (by simpa using h);omega
theorem xx(n:Nat):∀l:List Elem,fC l<=n->(dZ l).length<=2*fC l:=by
 induction n with
 |zero=>
  intro l hl;cases l with
  |nil=>simp[dZ]
  |cons e l=>
   have:=j8 e;simp only[fC]at hl;omega
 |succ n ih=>
  intro l;induction l with
  |nil=>intro _;simp[dZ]
  |cons e l ihl=>
   intro hl;simp only[fC]at hl|-;have he:=j8 e;have h1:=ihl (by omega);have h2:=ih e.bE (by omega);simp only[dZ,af,Gy];have h3:(ij e).length<=2:=by
    unfold ij;split
    ·split<;>simp
    ·simp
   omega
structure tm(w:World)(base:Nat)(e:TypeId)(size bytes:Nat)(G:Nat->Prop)(v:Value)(l:List GV)(A:Option Addr)(n:Nat)(m:List GV)(news:List Value)(k:Nat):Prop where
 own:b8 w base e size G v l
 hn:n=m.length
 hx:mR w (fun _=>True) A news
 hr:fW w (fun k=>G k/\some k≠v.ownBlock) size m news
 Fg:l.length+m.length<=maxLen
 mS:(l.length+m.length)*bytes<=140737488355328
 eo:base<=w.heap.size
 hk:k=(l++m).length
section
variable {P:Program} {w:World} {base:Nat} {e:TypeId} {size bytes:Nat} {G:Nat->Prop} {v:Value} {l:List GV} {A:Option Addr} {n c k:Nat} {m:List GV} {news:List Value}
theorem tm.step{ops:Array Oper}{o:Oper}{a:Act}{K:Act->World->Prop}{Q:Exit->Act->World->Prop}{E:Prop}(H:tm w base e size bytes G v l A n m news k)(Pw:o.guard=none)(s x:Operand)(t:TypeId)
 (ho:o.op=.call {callee:=.builtin .append,args:=#[s,x],argTypes:=#[t,t]}) (hT:kJ P t e size bytes) (hs:a.eval s=v) (hv:a.eval x=.slice A n c)
 (h:∀A' c' w',b8 w' base e size G (.slice A' k c') (l++m)->w.grownBy w' v.ownBlock->((Value.slice A' k c').ownBlock=v.ownBlock\/(Value.slice A' k c').ownBlock=some w.heap.size)->
  K (a.put o.dst (.slice A' k c')) w'):if Region.wanted o (yielded ops a.tmps)=true then Oper.wp P o a w K Q else E:=
 qN Pw s x t ho hT hs H.own H.hn hv H.hx H.hr H.Fg H.mS H.eo H.hk h
theorem tm.plain{ops:Array Oper}{rest:List Oper}{o:Oper}{a:Act}{Q:Exit->Act->World->Prop}(H:tm w base e size bytes G v l A n m news k)(Pw:o.guard=none)(s x:Operand)(t:TypeId)
 (ho:o.op=.call {callee:=.builtin .append,args:=#[s,x],argTypes:=#[t,t]}) (hT:kJ P t e size bytes) (hs:a.eval s=v) (hv:a.eval x=.slice A n c)
 (h:∀A' c' w',b8 w' base e size G (.slice A' k c') (l++m)->w.grownBy w' v.ownBlock->((Value.slice A' k c').ownBlock=v.ownBlock\/(Value.slice A' k c').ownBlock=some w.heap.size)->
  wpList P ops Q rest (a.put o.dst (.slice A' k c')) w'):wpList P ops Q (o::rest) a w:=
 gX Pw s x t ho hT hs H.own H.hn hv H.hx H.hr H.Fg H.mS H.eo H.hk h
theorem tm.IE{w0:World}{F:Nat->Prop}{A:Option Addr}{n c:Nat}(bZ:b8 w base e size G v l)(hr:GR w0 F (.row size m) [.slice A n c])(hw:Below w0.heap.size w0 w)
 (hF:∀k,F k->k<w0.heap.size->G k/\some k≠v.ownBlock) (fH:l.length+m.length<=100000000) (hb:bytes<=1000) (eo:base<=w.heap.size):
 ∃news,tm w base e size bytes G v l A n m news (l.length+m.length):=by
 obtain⟨A',c',xs,h1,h2,h3,h4,h5,h6⟩:=jR.1 (GR.du _ _ hr);simp only[List.cons.injEq,and_true]at h1;injection h1 with e1 e2 e3
 subst e1 e2;refine⟨xs,bZ,rfl,?_,?_,?_,?_,eo,by rw[af]⟩
 ·exact h5.mono (fun _ _=>trivial) (fun k hk bW=>hw.block k bW)
 ·exact fW.mono (fun k hk=>hF k hk.1 hk.2) (fun k hk bW=>hw.block k bW) size m xs h6
 ·simp only[maxLen];omega
 ·have:=Nat.mul_le_mul fH hb;omega
theorem tm.sE{g:Nat}{t:TypeId}{x:GV}{cs:List Value}(bZ:b8 w base e size G v l)(hc:bL w g t cs.toArray)(hx:GR w (fun k=>G k/\some k≠v.ownBlock) x cs)(hl:cs.length=size)
 (fH:l.length+1<=100000000) (hb:bytes<=1000) (eo:base<=w.heap.size):tm w base e size bytes G v l (some ⟨g,0,none⟩) 1 [x] cs (l.length+1):=by
 refine⟨bZ,rfl,pz hc,lp hx hl,?_,?_,eo,by rw[af];rfl⟩
 ·simp only[maxLen,ak,aD];omega
 ·have:=Nat.mul_le_mul fH hb
  show(l.length+1)*bytes<=_
  omega
end
structure IF(w:World)(base:Nat)(e:TypeId)(size bytes:Nat)(v:Value)(n:Nat)(xs:List Value)(ad:Addr)(news:List Value):Prop where
 own:w.ownsRow base e size v n xs
 hl:news.length=1*size
 ah7:∀j u,news[j]?=some u->w.cell? (ad.add j)=some u
 one:∀u∈news,u.oneCell'=true
 Fg:n+1<=maxLen
 mS:(n+1)*bytes<=140737488355328
 eo:base<=w.heap.size
theorem IF.step{P:Program}{w:World}{base:Nat}{e:TypeId}{size bytes n c:Nat}{v:Value}{xs news:List Value}{ad:Addr}{ops:Array Oper}{o:Oper}{a:Act}{K:Act->World->Prop}{Q:Exit->Act->World->Prop}{E:Prop}
 (H:IF w base e size bytes v n xs ad news) (Pw:o.guard=none) (s x:Operand) (t:TypeId) (ho:o.op=.call {callee:=.builtin .append,args:=#[s,x],argTypes:=#[t,t]}) (hT:kJ P t e size bytes)
 (hs:a.eval s=v) (hx:a.eval x=.slice (some ad) 1 c)
 (h:∀g cap w',w'.ownsRow base e size (.slice (some ⟨g,0,none⟩) (n+1) cap) (n+1) (xs++news)->w.grownBy w' v.ownBlock->(v.ownBlock=some g\/g=w.heap.size)->g<w'.heap.size->K (a.put o.dst (.slice (some ⟨g,0,none⟩) (n+1) cap)) w'):
 if Region.wanted o (yielded ops a.tmps)=true then Oper.wp P o a w K Q else E:=by
 obtain⟨i,z,ht,hi,hz,S8,hby,hzs,lQ⟩:=hT;exact step_append_lies w Pw s x t ho base e i z size bytes ht hi hz S8 hby hzs lQ v n xs hs H.own ad 1 c news hx H.hl H.ah7 H.one (by omega) H.Fg H.mS H.eo w.heap.size rfl h
def ik(x:Level)(kv:Value):List Value:=
 [.int .i64 x.e.kind,.string (bs x.e.text),.string (bs x.e.src),.string (bs x.e.jZ),.bool x.e.fp,.string (bs x.e.test),kv,.string (bs x.name)]
def fD:List Level->List Value->List Value
 |x::st,kv::kvs=>ik x kv++fD st kvs
 |_,_=>[]
theorem Cz:∀{st:List Level} {kvs:List Value},kvs.length=st.length->(fD st kvs).length=st.length*8
 |[],[],_=>rfl
 |[],_::_,h=>by simp at h
 |_::_,[],h=>by simp at h
 |x::st,kv::kvs,h=>by
  have:=Cz (st:=st) (kvs:=kvs) (by simpa using h);simp only[fD,af,ak,this,ik,aD];omega
theorem xz:∀{st:List Level} {kvs:List Value} (i:Nat) {x:Level} {kv:Value} (j:Nat),j<8->st[i]?=some x->kvs[i]?=some kv->(fD st kvs)[i*8+j]?=(ik x kv)[j]?
 |[],_,_,_,_,_,_,h,_=>by simp at h
 |_::_,[],_,_,_,_,_,_,h=>by simp at h
 |x::st,kv::kvs,0,x',C6,j,hj,h1,h2=>by
  simp only[List.getElem?_cons_zero,Option.some.injEq]at h1 h2;subst h1 h2;rw[Nat.zero_mul,Nat.zero_add,fD,bB (by simpa[ik]using hj)]
 |x::st,kv::kvs,i+1,x',C6,j,hj,h1,h2=>by
  simp only[List.getElem?_cons_succ]at h1 h2;have e:(i+1)*8+j=(ik x kv).length+(i*8+j):=by
   rw[Nat.add_mul];simp only[ik,ak,aD];omega
  rw[fD,e,List.getElem?_append_right (by omega),Nat.add_sub_cancel_left];exact xz i j hj h1 h2
theorem pS:∀{st st':List Level} {kvs IG:List Value},kvs.length=st.length->fD (st++st') (kvs++IG)=fD st kvs++fD st' IG
 |[],_,[],_,_=>rfl
 |[],_,_::_,_,h=>by simp at h
 |_::_,_,[],_,h=>by simp at h
 |x::st,st',kv::kvs,IG,h=>by
  simp only[aU,fD];rw[pS (by simpa using h),aN]
theorem Kz(st:List Level)(kvs:List Value)(t:Level)(l:List Elem)(kv C6:Value)(h:kvs.length=st.length):
 (fD (st++[t]) (kvs++[kv])).set (st.length*8+6) C6=fD (st++[⟨t.e.dD l,t.name⟩]) (kvs++[C6]):=by
 rw[pS h,pS h,List.set_append_right _ _ (by rw[Cz h];omega),Cz h,Nat.add_sub_cancel_left];obtain⟨⟨k,tx,s,a,b,u,ks⟩,nm⟩:=t;rfl
structure J4(w:World)(base:Nat)(tl te:TypeId)(v:Value)(st:List Level)(kvs:List Value)(own:Nat->Option Nat):Prop where
 len:kvs.length=st.length
 row:w.ownsRow base tl 8 v st.length (fD st kvs)
 Nw:∀(i:Nat) (x:Level) (kv:Value),st[i]?=some x->kvs[i]?=some kv->b8 w base te 7 (fun g=>own g=some i) kv (x.e.bE.map Elem.gv)/\∀k,kv.ownBlock=some k->own k=some i
 B5:∀k,v.ownBlock=some k->own k=none
 lt:∀g i,own g=some i->base<=g/\g<w.heap.size
section
variable {w w':World} {base:Nat} {tl te:TypeId} {v:Value} {st:List Level} {kvs:List Value} {own:Nat->Option Nat}
theorem J4.kept(h:J4 w base tl te v st kvs own){row:Option Nat}(hg:w.grownBy w' row)(hr:∀k,row=some k->own k=none/\v.ownBlock≠some k):J4 w' base tl te v st kvs own:=by
 refine⟨h.len,?_,fun i x kv h1 h2=>?_,h.B5,fun g i hi=>⟨(h.lt g i hi).1,br (h.lt g i hi).2 hg.size⟩⟩
 ·refine h.row.kept hg ?_;cases hv:v.ownBlock with
  |none=>exact .inl rfl
  |some k=>exact .inr fun e=>(hr k e.symm).2 hv
 ·obtain⟨h3,h4⟩:=h.Nw i x kv h1 h2;refine⟨h3.kept hg ?_ fun k hk e=>?_,h4⟩
  ·cases hv:kv.ownBlock with
   |none=>exact .inl rfl
   |some k=>
    refine .inr fun e=>?_;have h5:=h4 k hv;rw[(hr k e.symm).1]at h5;cases h5
  ·have h5:=(hr k e.symm).1;rw[hk]at h5;cases h5
theorem J4.below(h:J4 w base tl te v st kvs own)(hb:Below w.heap.size w w'):J4 w' base tl te v st kvs own:=
 h.kept (row:=none) ⟨hb.os,hb.tape,hb.output,hb.size,fun k hk _=>hb.block k hk⟩ (fun k e=>by cases e)
theorem Tw{k i j:Nat}(h1:own k=some i)(h2:own k=some j):i=j:=by rw[h1]at h2;exact ar h2
theorem J4.put{w1 w2:World}{r:List Level}{t:Level}{kvr:List Value}{kv C6:Value}{e:Elem}{T:Nat->Prop}{sb cap:Nat}
 (h:J4 w base tl te (.slice (some ⟨sb,0,none⟩) (r.length+1) cap) (r++[t]) (kvr++[kv]) own) (xA:kvr.length=r.length)
 (mn:w.grownBy w1 kv.ownBlock) (hT:∀g,T g->own g=none/\sb≠g/\base<=g/\g<w1.heap.size)
 (ho:b8 w1 base te 7 (fun g=>own g=some r.length\/T g) C6 ((t.e.bE++[e]).map Elem.gv)) (fG:C6.ownBlock=kv.ownBlock\/C6.ownBlock=some w.heap.size)
 (h2:w2=w1.setCell ⟨sb,r.length*8+6,none⟩ C6):
 ∃pT,J4 w2 base tl te (.slice (some ⟨sb,0,none⟩) (r.length+1) cap) (r++[⟨t.e.dD (t.e.bE++[e]),t.name⟩]) (kvr++[C6]) pT/\
  (∀g,own g=none->¬T g->g<w.heap.size->pT g=none):=by
 subst h2;have E5:=h.B5 sb rfl;have PQ:(r++[t])[r.length]?=some t:=by simp
 have as0:(kvr++[kv])[r.length]?=some kv:=by rw[<-xA];simp
 obtain⟨nE,fA⟩:=h.Nw r.length t kv PQ as0;have ah8:some sb≠kv.ownBlock:=fun e=>by have:=fA sb e.symm;rw[E5]at this;cases this
 have mC:=(h.row.lt sb rfl).2;have Yl:some sb≠C6.ownBlock:=by
  rcases fG with e|e<;>rw[e]
  ·exact ah8
  ·simp;omega
 have ah9:w1.ownsRow base tl 8 (.slice (some ⟨sb,0,none⟩) (r.length+1) cap) (r.length+1) (fD (r++[t]) (kvr++[kv])):=by
  have:=h.row.kept mn (.inr ah8)
  rwa [af,aR]at this
 obtain⟨Ym,uc⟩:=ah9.stored (r.length*8+6) C6;rw[Kz r kvr t (t.e.bE++[e]) kv C6 xA]at Ym
 classical
 have KA:∀k,C6.ownBlock=some k->base<=k/\k<w1.heap.size:=ho.lt;refine⟨fun g=>if T g\/C6.ownBlock=some g then some r.length else own g,⟨?_,?_,?_,?_,?_⟩,?_⟩
 ·simp only[af,aR,xA]
 ·rw[af,aR];exact Ym
 ·intro i x kx zG tp;by_cases hi:i=r.length
  ·subst hi;have e1:x=⟨t.e.dD (t.e.bE++[e]),t.name⟩:=by simpa using zG.symm
   have e2:kx=C6:=by
    have:(kvr++[C6])[r.length]?=some C6:=by rw[<-xA];simp
    rw[this]at tp;exact(ar tp).symm
   subst e1 e2;refine⟨?_,fun k hk=>by simp[hk]⟩;simp only[Elem.fP];refine(ho.kept uc (.inr Yl.symm) (fun k hk e=>?_)).dY (dv _) (fun k hk=>?_)
   ·injection e with e
    subst e;rcases hk with hk|hk
    ·rw[E5]at hk;cases hk
    ·exact(hT _ hk).2.1 rfl
   ·rcases hk with hk|hk
    ·by_cases hc:T k\/kx.ownBlock=some k
     ·simp only[ae hc]
     ·simp only[aa hc];exact hk
    ·simp only[ae (Or.inl hk)]
  ·have bW:i<r.length:=by
    have:=(List.getElem?_eq_some_iff.1 zG).1;simp only[af,aR]at this;omega
   have as1:(r++[t])[i]?=some x:=by rw[bB bW]at zG|-;exact zG
   have as2:(kvr++[kv])[i]?=some kx:=by rw[bB (by omega)]at tp|-;exact tp
   obtain⟨h3,h4⟩:=h.Nw i x kx as1 as2;have hnk:∀k,own k=some i->some k≠kv.ownBlock:=fun k hk e=>hi (Tw hk (fA k e.symm));have KB:∀k,own k=some i->¬(T k\/C6.ownBlock=some k):=by
    rintro k hk (hc|hc)
    ·rw[(hT k hc).1]at hk;cases hk
    ·rcases fG with e|e
     ·exact hnk k hk (by rw[<-e,hc])
     ·rw[e]at hc;injection hc with hc
      have:=(h.lt k i hk).2;omega
   refine⟨?_,fun k hk=>by simp only[aa (KB k (h4 k hk))];exact h4 k hk⟩;have h5:=h3.kept mn (by cases hv:kx.ownBlock with
    |none=>exact .inl rfl
    |some k=>exact .inr (by rw[<-hv];rw[hv];exact hnk k (h4 k hv))) (fun k hk=>hnk k hk)
   have h6:=h5.kept uc (by cases hv:kx.ownBlock with
    |none=>exact .inl rfl
    |some k=>exact .inr (fun e=>by injection e with e;subst e;have:=h4 _ hv;rw[E5]at this;cases this)) (fun k hk e=>by injection e with e;subst e;rw[E5]at hk;cases hk)
   exact h6.dY (dv _) (fun k hk=>by simp only[aa (KB k hk)];exact hk)
 ·intro k hk;have hk:sb=k:=by simpa[Value.ownBlock]using hk
  subst hk;have hc:¬(T sb\/C6.ownBlock=some sb):=by
   rintro (hc|hc)
   ·exact(hT sb hc).2.1 rfl
   ·exact Yl hc.symm
  simp only[aa hc];exact E5
 ·intro g i hgi;have hz:(w1.setCell ⟨sb,r.length*8+6,none⟩ C6).heap.size=w1.heap.size:=by simp[World.setCell]
  rw[hz];by_cases hc:T g\/C6.ownBlock=some g
  ·rcases hc with hc|hc
   ·exact⟨(hT g hc).2.2.1,(hT g hc).2.2.2⟩
   ·exact KA g hc
  ·simp only[aa hc]at hgi;have:=h.lt g i hgi;exact⟨this.1,br this.2 mn.size⟩
 ·intro g hg hnt bW;have hc:¬(T g\/C6.ownBlock=some g):=by
   rintro (hc|hc)
   ·exact hnt hc
   ·rcases fG with e|e
    ·have:=fA g (by rw[<-e,hc]);rw[hg]at this;cases this
    ·rw[e]at hc;injection hc with hc
     omega
  simp only[aa hc];exact hg
theorem J4.push{w1:World}{x:Level}{g cap:Nat}(h:J4 w base tl te v st kvs own)(hx:x.e.bE=[])(mn:w.grownBy w1 v.ownBlock)
 (ib:w1.ownsRow base tl 8 (.slice (some ⟨g,0,none⟩) (st.length+1) cap) (st.length+1) (fD st kvs++ik x (.slice none 0 0))) (fG:v.ownBlock=some g\/g=w.heap.size):
 J4 w1 base tl te (.slice (some ⟨g,0,none⟩) (st.length+1) cap) (st++[x]) (kvs++[.slice none 0 0]) own:=by
 refine⟨by simp[h.len],?_,?_,?_,fun k i hk=>⟨(h.lt k i hk).1,br (h.lt k i hk).2 mn.size⟩⟩
 ·rw[pS h.len,af,aR];have e:fD [x] [.slice none 0 0]=ik x (.slice none 0 0):=by simp[fD]
  rw[e];exact ib
 ·intro i y kv h1 h2;by_cases hi:i=st.length
  ·subst hi;have e1:y=x:=by simpa using h1.symm
   have e2:kv=.slice none 0 0:=by
    rw[<-h.len]at h2
    simpa using h2.symm
   subst e1 e2;rw[hx];exact⟨b8.nil _ _ _ _ _,fun k hk=>by cases hk⟩
  ·have bW:i<st.length:=by
    have:=(List.getElem?_eq_some_iff.1 h1).1;simp only[af,aR]at this;omega
   rw[bB bW]at h1;rw[bB (by rw[h.len];exact bW)]at h2;obtain⟨h3,h4⟩:=h.Nw i y kv h1 h2;have db:∀k,own k=some i->some k≠v.ownBlock:=fun k hk e=>by
    have:=h.B5 k e.symm;rw[this]at hk;cases hk
   refine⟨h3.kept mn ?_ db,h4⟩;cases hv:kv.ownBlock with
   |none=>exact .inl rfl
   |some k=>exact .inr (db k (h4 k hv))
 ·intro k hk;have hk:g=k:=by simpa[Value.ownBlock]using hk
  subst hk;rcases fG with e|e
  ·exact h.B5 g e
  ·cases ho:own g with
   |none=>rfl
   |some i=>have:=(h.lt g i ho).2;omega
theorem J4.pop{r:List Level}{t:Level}{kvr:List Value}{kv:Value}{sb cap:Nat}
 (h:J4 w base tl te (.slice (some ⟨sb,0,none⟩) (r.length+1) cap) (r++[t]) (kvr++[kv]) own) (xA:kvr.length=r.length):
 ∃pT,J4 w base tl te (.slice (some ⟨sb,0,none⟩) r.length cap) r kvr pT/\(∀g,own g=some r.length->pT g=none)/\(∀g,own g=none->pT g=none):=by
 classical
 refine⟨fun g=>if own g=some r.length then none else own g,⟨xA,?_,?_,?_,?_⟩,fun g hg=>by simp[hg],fun g hg=>by simp[hg]⟩
 ·have h1:=h.row;rw[pS xA,af,aR]at h1;exact ownsRow_pop (Cz xA) h1
 ·intro i x kx h1 h2;have bW:=(List.getElem?_eq_some_iff.1 h1).1;obtain⟨h3,h4⟩:=h.Nw i x kx (by rw[bB bW];exact h1) (by rw[bB (by omega)];exact h2);have hc:∀k,own k=some i->¬own k=some r.length:=fun k hk e=>by have:=Tw hk e;omega
  exact⟨h3.dY (dv _) (fun k hk=>by simp only[aa (hc k hk)];exact hk),fun k hk=>by simp only[aa (hc k (h4 k hk))];exact h4 k hk⟩
 ·intro k hk;have:=h.B5 k hk;simp[this]
 ·intro g i hgi;by_cases hc:own g=some r.length
  ·simp[hc]at hgi
  ·simp only[aa hc]at hgi;exact h.lt g i hgi
end
structure C7(w:World)(p0 p1 p2:Nat):Prop where
 a0:∃u,w.cell? ⟨p0,0,none⟩=some u
 a1:∃u,w.cell? ⟨p0,1,none⟩=some u
 a2:∃u,w.cell? ⟨p0,2,none⟩=some u
 f0:w.frozen? ⟨p0,0,none⟩=false
 f1:w.frozen? ⟨p0,1,none⟩=false
 f2:w.frozen? ⟨p0,2,none⟩=false
 b0:∃u,w.cell? ⟨p1,0,none⟩=some u
 g0:w.frozen? ⟨p1,0,none⟩=false
 c0:∃u,w.cell? ⟨p2,0,none⟩=some u
 h0:w.frozen? ⟨p2,0,none⟩=false
theorem Tx(w:World):(Instr.typeAssert (.iface 179 (.agg #[])) 20 179 true).run prog w=.ok (.tuple #[.agg #[],.bool true]) w:=by kernel_rfl
theorem WB(n:Int)(w:World):(Instr.typeAssert (.iface 29 (.int .i64 n)) 20 179 true).run prog w=.ok (.tuple #[.agg #[],.bool false]) w:=by kernel_rfl
theorem WD(n:Int)(w:World):(Instr.typeAssert (.iface 29 (.int .i64 n)) 20 29 true).run prog w=.ok (.tuple #[.int .i64 n,.bool true]) w:=by kernel_rfl
theorem Nx(p0 p1 p2:Nat)(w:World):
 CallsD prog 120 #[.pointer (some ⟨p0,0,none⟩),.pointer (some ⟨p1,0,none⟩),.pointer (some ⟨p2,0,none⟩)] .returning w fun e u' w'=>e=.returned (.tuple #[])/\u'=.returning/\w'=w:=by
 refine callsD_of_wpS func120 rfl fun c₀ cs hu=>?_;apply wpS_seq;apply wpS_region;simp[wpOpsS,go_sem,recoverD,hu,ntmps120,Exit.thenS];refine wpS_of_wp ?_;change Code.wp prog _ _ ⟨#[.pointer (some ⟨p0,0,none⟩),.pointer (some ⟨p1,0,none⟩),.pointer (some ⟨p2,0,none⟩),.nilIface,undef,undef,undef,.nilIface,undef,undef,undef,undef,undef,undef,undef,undef,undef,undef,undef,undef],[]⟩ w;go_wp2_with fail;cases c₀;simp_all[bodyPostS,results,results120]
def sF(w:World)(p0 p1:Nat):World:=(j5 w p0 (.int .i64 0) (.string (bs [])) (.slice none 0 0)).setCell ⟨p1,0,none⟩ (.int .i64 0)
theorem KC(p0 p1 p2:Nat)(w:World)(h:C7 w p0 p1 p2)(bW:p0<p1/\p1<p2)(KD:List PanicEntry):
 CallsD prog 120 #[.pointer (some ⟨p0,0,none⟩),.pointer (some ⟨p1,0,none⟩),.pointer (some ⟨p2,0,none⟩)] (.panicking ({v:=CK,recovered:=false}::KD)) w fun e u' w'=>
  e=.returned (.tuple #[])/\u'=.panicking ({v:=CK,recovered:=true}::KD)/\∃o,w'=(sF w p0 p1).alloc o:=by
 obtain⟨⟨ua0,a0⟩,⟨ua1,a1⟩,⟨ua2,a2⟩,f0,f1,f2,⟨ub0,b0⟩,g0,⟨uc0,c0⟩,h0⟩:=h;have hta:=Tx;refine callsD_of_wpS func120 rfl fun c₀ cs hu=>?_;apply wpS_seq;apply wpS_region;simp[wpOpsS,go_sem,recoverD,hu,ntmps120,Exit.thenS];refine wpS_of_wp ?_;change Code.wp prog _ _ ⟨#[.pointer (some ⟨p0,0,none⟩),.pointer (some ⟨p1,0,none⟩),.pointer (some ⟨p2,0,none⟩),(.iface 179 (.agg #[])),undef,undef,undef,(.iface 179 (.agg #[])),undef,undef,undef,undef,undef,undef,undef,undef,undef,undef,undef,undef],[]⟩ w;have as3:p0≠p1:=by omega
 have CY:p0≠p2:=by omega
 have Nq:p1≠p2:=by omega
 go_wp2_with fail;exact⟨rfl,_,rfl,_,results_none rfl _ _ _,rfl,rfl,_,rfl⟩
theorem QO(n:Int)(p0 p1 p2:Nat)(w:World)(h:C7 w p0 p1 p2)(bW:p0<p1/\p1<p2)(KD:List PanicEntry):
 CallsD prog 120 #[.pointer (some ⟨p0,0,none⟩),.pointer (some ⟨p1,0,none⟩),.pointer (some ⟨p2,0,none⟩)] (.panicking ({v:=Qx n,recovered:=false}::KD)) w fun e u' w'=>
  e=.returned (.tuple #[])/\u'=.panicking ({v:=Qx n,recovered:=true}::KD)/\w'=(sF w p0 p1).setCell ⟨p2,0,none⟩ (.int .i64 n):=by
 obtain⟨⟨ua0,a0⟩,⟨ua1,a1⟩,⟨ua2,a2⟩,f0,f1,f2,⟨ub0,b0⟩,g0,⟨uc0,c0⟩,h0⟩:=h;have hta:=WB;have aC4:=WD;refine callsD_of_wpS func120 rfl fun c₀ cs hu=>?_;apply wpS_seq;apply wpS_region;simp[wpOpsS,go_sem,recoverD,hu,ntmps120,Exit.thenS];refine wpS_of_wp ?_;change Code.wp prog _ _ ⟨#[.pointer (some ⟨p0,0,none⟩),.pointer (some ⟨p1,0,none⟩),.pointer (some ⟨p2,0,none⟩),(.iface 29 (.int .i64 n)),undef,undef,undef,(.iface 29 (.int .i64 n)),undef,undef,undef,undef,undef,undef,undef,undef,undef,undef,undef,undef],[]⟩ w;have as3:p0≠p1:=by omega
 have CY:p0≠p2:=by omega
 have Nq:p1≠p2:=by omega
 go_wp2_with fail;exact⟨rfl,_,rfl,_,results_none rfl _ _ _,rfl,rfl,rfl⟩
def WE(w:World)(r:bG × Nat × Int)(e:Ending)(w':World):Prop:=
 ∃va,e=.returned (.tuple #[.agg #[.int .i64 r.1.kind,.string (bs r.1.text),va],.int .i64 r.2.1,.int .i64 r.2.2])/\GR w' (fun g=>w.heap.size<=g) (.row 2 (r.1.bK.map bY.gv)) [va]/\Below w.heap.size w w'
def Fu(w:World)(s:ByteArray):World:=
 (((w.alloc (.cells #[.int .i64 0,.string (bs []),.slice none 0 0] 75)).alloc (.cells #[.int .i64 0] 3)).alloc (.cells #[.int .i64 0] 29)).alloc (.cells #[.string s,.int .i64 0] 182)
theorem Ny(w:World)(s:ByteArray):bL (Fu w s) w.heap.size 75 #[.int .i64 0,.string (bs []),.slice none 0 0]/\bL (Fu w s) (w.heap.size+1) 3 #[.int .i64 0]/\bL (Fu w s) (w.heap.size+1+1) 29 #[.int .i64 0]/\
 Rd (Fu w s) (w.heap.size+1+1+1) s 0/\Below w.heap.size w (Fu w s):=by
 have s1:=size_alloc w (.cells #[.int .i64 0,.string (bs []),.slice none 0 0] 75);have h1:=bL.new w 75 #[.int .i64 0,.string (bs []),.slice none 0 0];have e1:=cU w (.cells #[.int .i64 0,.string (bs []),.slice none 0 0] 75);unfold Fu;generalize w.alloc (.cells #[.int .i64 0,.string (bs []),.slice none 0 0] 75)=w1 at*;have s2:=size_alloc w1 (.cells #[.int .i64 0] 3);have h2:=bL.new w1 3 #[.int .i64 0];have e2:=e1.alloc (by omega) (.cells #[.int .i64 0] 3);have II:=h1.alloc (.cells #[.int .i64 0] 3);generalize w1.alloc (.cells #[.int .i64 0] 3)=w2 at*;have s3:=size_alloc w2 (.cells #[.int .i64 0] 29);have h3:=bL.new w2 29 #[.int .i64 0];have e3:=e2.alloc (by omega) (.cells #[.int .i64 0] 29);have h13:=II.alloc (.cells #[.int .i64 0] 29);have h23:=h2.alloc (.cells #[.int .i64 0] 29);generalize w2.alloc (.cells #[.int .i64 0] 29)=w3 at*;have h4:=bL.new w3 182 #[.string s,.int .i64 0];rw[s1]at h2 h23;rw[s2,s1]at h3;rw[s3,s2,s1]at h4;exact⟨h13.alloc _,h23.alloc _,h3.alloc _,⟨h4.cell 0,h4.cell 1,h4.frozen 1⟩,e3.alloc (by omega) _⟩
theorem ur{w:World}{H:Nat}{tmps:Array Value}{k n b:Int}{t:ByteArray}{v:Value}(h4:tmps[4]?.getD undef=.pointer (some ⟨H,0,none⟩))(h5:tmps[5]?.getD undef=.pointer (some ⟨H+1,0,none⟩))(h6:tmps[6]?.getD undef=.pointer (some ⟨H+1+1,0,none⟩))
 (B0:bL w H 75 #[.int .i64 k,.string t,v]) (B1:bL w (H+1) 3 #[.int .i64 n]) (B2:bL w (H+1+1) 29 #[.int .i64 b]):
 (results f98 tmps).run prog w=.ok (.tuple #[.agg #[.int .i64 k,.string t,v],.int .i64 n,.int .i64 b]) w:=by
 obtain⟨a0,a1,a2⟩:=nw B0;have c0:=B1.cell 0;have d0:=B2.cell 0;simp[results,results98,go_sem,h4,h5,h6,a0,a1,a2,c0,d0]
theorem C8{w:World}{R:Nat}{t:TypeId}{u0 u1 u2:Value}(h:bL w R t #[u0,u1,u2])(x0 x1 x2:Value):bL (j5 w R x0 x1 x2) R t #[x0,x1,x2]:=
 ((h.cL 0 x0).cL 1 x1).cL 2 x2
theorem rC{w:World}{g R:Nat}{t:TypeId}{cs:Array Value}(h:bL w g t cs)(db:g≠R)(x0 x1 x2:Value):bL (j5 w R x0 x1 x2) g t cs:=
 ((h.gf (p:=⟨R,0,none⟩) db x0).gf (p:=⟨R,1,none⟩) db x1).gf (p:=⟨R,2,none⟩) db x2
theorem Fv{w:World}{H:Nat}{u0 u1 u2 u3 u4:Value}(c0:bL w H 75 #[u0,u1,u2])(c1:bL w (H+1) 3 #[u3])(c2:bL w (H+1+1) 29 #[u4]):
 bL (sF w H (H+1)) H 75 #[.int .i64 0,.string (bs []),.slice none 0 0]/\bL (sF w H (H+1)) (H+1) 3 #[.int .i64 0]/\bL (sF w H (H+1)) (H+1+1) 29 #[u4]/\
  Below H w (sF w H (H+1)):=by
 refine⟨(C8 c0 _ _ _).gf (p:=⟨H+1,0,none⟩) (by simp) _,(rC c1 (by omega) _ _ _).cL 0 _,(rC c2 (by omega) _ _ _).gf (p:=⟨H+1,0,none⟩) (by simp) _,?_⟩;unfold sF j5;exact((((aF H w).setCell (p:=⟨H,0,none⟩) (dv H) _).setCell (p:=⟨H,1,none⟩) (dv H) _).setCell (p:=⟨H,2,none⟩) (dv H) _).setCell (p:=⟨H+1,0,none⟩) (aY H) _
def uu(w:World)(H:Nat)(x0 x1 x2 x3:Value):World:=
 (((j5 (j5 w H x0 x1 x2) H x0 x1 x2).setCell ⟨H+1,0,none⟩ x3).setCell ⟨H+1+1,0,none⟩ (.int .i64 0)).drew
theorem IJ{w:World}{H:Nat}{u0 u1 u2 u3 u4:Value}(x0 x1 x2 x3:Value)(c0:bL w H 75 #[u0,u1,u2])(c1:bL w (H+1) 3 #[u3])(c2:bL w (H+1+1) 29 #[u4]):
 bL (uu w H x0 x1 x2 x3) H 75 #[x0,x1,x2]/\bL (uu w H x0 x1 x2 x3) (H+1) 3 #[x3]/\bL (uu w H x0 x1 x2 x3) (H+1+1) 29 #[.int .i64 0]/\
  Below H w (uu w H x0 x1 x2 x3)/\∀k,H+1+1<k->(uu w H x0 x1 x2 x3).heap[k]?=w.heap[k]?:=by
 have y0:=C8 (C8 c0 x0 x1 x2) x0 x1 x2;have y1:=rC (rC c1 (show H+1≠H by omega) x0 x1 x2) (show H+1≠H by omega) x0 x1 x2;have y2:=rC (rC c2 (show H+1+1≠H by omega) x0 x1 x2) (show H+1+1≠H by omega) x0 x1 x2;have yb:Below H w (j5 (j5 w H x0 x1 x2) H x0 x1 x2):=by
  unfold j5;exact((((((aF H w).setCell (p:=⟨H,0,none⟩) (dv H) _).setCell (p:=⟨H,1,none⟩) (dv H) _).setCell (p:=⟨H,2,none⟩) (dv H) _).setCell (p:=⟨H,0,none⟩) (dv H) _).setCell (p:=⟨H,1,none⟩) (dv H) _).setCell (p:=⟨H,2,none⟩) (dv H) _
 have yk:∀k,k≠H->(j5 (j5 w H x0 x1 x2) H x0 x1 x2).heap[k]?=w.heap[k]?:=by
  intro k hk;unfold j5;rw[Below.heap_setCell _ _ _ _ hk,Below.heap_setCell _ _ _ _ hk,Below.heap_setCell _ _ _ _ hk,Below.heap_setCell _ _ _ _ hk,Below.heap_setCell _ _ _ _ hk,Below.heap_setCell _ _ _ _ hk]
 unfold uu;generalize j5 (j5 w H x0 x1 x2) H x0 x1 x2=W at*;have n1:H≠H+1:=by omega
 have n2:H≠H+1+1:=by omega
 have n3:H+1≠H+1+1:=by omega
 refine⟨(y0.gf (p:=⟨H+1,0,none⟩) n1 _).gf (p:=⟨H+1+1,0,none⟩) n2 _,(y1.cL 0 x3).gf (p:=⟨H+1+1,0,none⟩) n3 _,(y2.gf (p:=⟨H+1,0,none⟩) n3.symm _).cL 0 _,
  ((yb.setCell (p:=⟨H+1,0,none⟩) (aY H) _).setCell (p:=⟨H+1+1,0,none⟩) (by show H<=H+1+1;omega) _).drew,fun k hk=>?_⟩
 have m1:k≠H+1+1:=by omega
 have m2:k≠H+1:=by omega
 exact(Below.heap_setCell _ ⟨H+1+1,0,none⟩ _ _ m1).trans ((Below.heap_setCell _ ⟨H+1,0,none⟩ _ _ m2).trans (yk k (by omega)))
theorem GA{w:World}{F:Nat->Prop}{l:List bY}(h:l=[]):GR w F (.row 2 (l.map bY.gv)) [.slice none 0 0]:=by subst h;exact cS
theorem Ae(s m:ByteArray)(w:World)(hs:s.size<=10000000)(hm:m.size<=100):
 Calls prog 98 #[.string s,.string m] w (WE w (fe (L s) (L m))):=by
 have EZ:∀(fn:Fn) (first cap:Array Value) (w:World),(Instr.makeFunc fn first cap).run prog w=.ok (.func fn first cap) w:=fun _ _ _ _=>rfl;generalize hF:ml (L m) (L s) 0=F;have HF:=bD hF;clear hF;go_enter_defers func98,ntmps98;go_wp2_with fail;obtain⟨b0,b1,b2,JZ,mP⟩:=Ny w s;have qT:Hy (Below w.heap.size w (Fu w s)):=mP;refine(Qz s m _ (Fu w s) JZ hs hm).mono ?_;have tC:w.heap.size+1+1+1<(Fu w s).heap.size:=aq _ _ JZ.1;clear mP JZ;generalize Fu w s=W at*;generalize hH:w.heap.size=H at*;rintro e w5 ⟨hg,⟨x,rfl,hx⟩|⟨t,r,k,va,ho,rfl,hr,hk,JZ,cO⟩⟩
 ·have c0:=b0.grown hg (by simp;omega);have c1:=b1.grown hg (by simp);have c2:=b2.grown hg (by simp);have kM:Below H W w5:=bN hg (by omega) (fun k hk=>by injection hk with hk;omega);obtain⟨z0,z1,z2,hz⟩:=Fv c0 c1 c2;have Cv:C7 w5 H (H+1) (H+1+1):=⟨⟨_,c0.cell 0⟩,⟨_,c0.cell 1⟩,⟨_,c0.cell 2⟩,c0.frozen 0,c0.frozen 1,c0.frozen 2,⟨_,c1.cell 0⟩,c1.frozen 0,⟨_,c2.cell 0⟩,c2.frozen 0⟩;rcases hx.out with⟨hxF,rfl⟩|⟨n,hxF,rfl⟩
  ·refine leaves_cons (f:=120) (args:=#[.pointer (some ⟨H,0,none⟩),.pointer (some ⟨H+1,0,none⟩),.pointer (some ⟨H+1+1,0,none⟩)]) (by simp) (by simp[go_sem]) ?_;refine(KC H (H+1) (H+1+1) _ Cv (by omega) []).mono ?_;rintro e u' w'' ⟨rfl,rfl,o,rfl⟩;refine⟨_,ur rfl rfl rfl (z0.alloc o) (z1.alloc o) (z2.alloc o),.slice none 0 0,?_,GA (by rw[fe,hxF];rfl),?_⟩
   ·rw[fe,hxF];rfl
   ·rw[hH];exact(qT.o.trans (kM.trans hz)).alloc (by have:=z0.lt;omega) o
  ·refine leaves_cons (f:=120) (args:=#[.pointer (some ⟨H,0,none⟩),.pointer (some ⟨H+1,0,none⟩),.pointer (some ⟨H+1+1,0,none⟩)]) (by simp) (by simp[go_sem]) ?_;refine(QO n H (H+1) (H+1+1) _ Cv (by omega) []).mono ?_;rintro e u' w'' ⟨rfl,rfl,rfl⟩;refine⟨_,ur rfl rfl rfl (z0.gf (p:=⟨H+1+1,0,none⟩) (by simp;omega) _) (z1.gf (p:=⟨H+1+1,0,none⟩) (by simp) _) (z2.cL 0 _),.slice none 0 0,?_,GA (by rw[fe,hxF];rfl),?_⟩
   ·rw[fe,hxF];rfl
   ·rw[hH];exact(qT.o.trans (kM.trans hz)).setCell (p:=⟨H+1+1,0,none⟩) (by show H<=H+1+1;omega) _
 ·have c0:=b0.grown hg (by simp;omega);have c1:=b1.grown hg (by simp);have c2:=b2.grown hg (by simp);have kM:Below H W w5:=bN hg (by omega) (fun k hk=>by injection hk with hk;omega);have kf:=bD (qT.o.trans kM);obtain⟨A,ca,rfl,_⟩:=dV cO;have tV:=bD cO;obtain⟨a0,a1,a2⟩:=nw c0;obtain⟨f0,f1,f2⟩:=VE c0;have d0:=c1.cell 0;have d1:=c1.frozen 0;have e0:=c2.cell 0;have e1:=c2.frozen 0;obtain⟨r0,r1,r2⟩:=id JZ;have ZR:=bD c0;have HC1:=bD c1;have J1:=bD c2;have HCS:=bD tC;clear b0 b1 b2 hg kM qT cO c0 c1 c2 JZ tC;have HHH:=bD hH;clear hH;go_wp2_with fail;go_region;go_wp2_with fail;refine leaves_cons (f:=120) (args:=#[.pointer (some ⟨H,0,none⟩),.pointer (some ⟨H+1,0,none⟩),.pointer (some ⟨H+1+1,0,none⟩)]) (by simp) (by simp[go_sem]) ?_;refine(Nx H (H+1) (H+1+1) _).mono ?_;rintro e u' w'' ⟨rfl,rfl,rfl⟩;obtain⟨y0,y1,y2,yb,yk⟩:=IJ (.int .i64 t.kind) (.string (bs t.text)) (.slice A t.bK.length ca) (.int .i64 k) ZR.o HC1.o J1.o
  show Leaves prog f98 _ _ [] .returning (uu w5 H (.int .i64 t.kind) (.string (bs t.text)) (.slice A t.bK.length ca) (.int .i64 k))
  generalize uu w5 H (.int .i64 t.kind) (.string (bs t.text)) (.slice A t.bK.length ca) (.int .i64 k)=WF at*;refine⟨_,ur rfl rfl rfl y0 y1 y2,.slice A t.bK.length ca,?_,?_,?_⟩
  ·rw[fe,ho.out]
  ·rw[fe,ho.out];have tC:=HCS.o;refine GR.mono (fun x hx=>?_) (fun x hx _=>?_) _ _ tV.o
   ·have hx:W.heap.size<=x:=hx
    show w.heap.size<=x
    rw[HHH.o];omega
   ·have hx:W.heap.size<=x:=hx;exact yk x (by omega)
  ·rw[HHH.o];exact kf.o.trans yb
end Go.Proofs.YtejafaaihodehaaGreatDoor
