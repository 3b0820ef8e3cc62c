/- 'TopJoins' holds, the row and the tied card: two pages, one behind the other, are put together to what both are. Condition: the listed variables of Go's library hold what the program's text lays (tied by the card). -/
import Derived.Test.YtejafaaihodehaaGreatDoorZ50
import Derived.Test.YtejafaaihodehaaGreatDoorZ51
import Derived.Test.YtejafaaihodehaaGreatDoorRows
import Derived.Test.YtejafaaihodehaaGreatDoorCards
import Derived.Test.YtejafaaihodehaaGreatDoorTie
import Derived.LaidMore
import Derived.Lay
import Derived.SevenTiedAt
import Derived.Stop.Joined
import Derived.Stop.LaidErr
import Derived.Lib.LaidTab
import Derived.Shelf.Vars
import Derived.ShutString
import Derived.ChangeOld
import Derived.Below
set_option linter.all false
set_option maxRecDepth 100000
set_option maxHeartbeats 8000000
namespace Go.Proofs.YtejafaaihodehaaGreatDoor.topJoins
open Go.ChangeShapes Go.WideShapes Go.ChangeAt Go.RowKit
open Go.ChangeMaps (open_string shut_string)
theorem own:ownKnob Tryz.prog.godebug=none:=by kernel_rfl
theorem Qv:laidOutB Tryz.prog=true:=by kernel_rfl
theorem aq3{W:World}(hm:∃m,W.cell? ⟨0,0,none⟩=some (.int .i64 m))(hL:laidMetH Tryz.prog Rows.topJoinsRow.laid W):eK W:=by
 rw[MakeChecks.laidMetH_plain _ _ _ (by kernel_rfl)]at hL;have h3:=laidMet.tail (laidMet.tail hL);exact⟨hm,Lib.tabIs_of_head (g:=1) (t:=247) (e:=106) (n:=20) (k:=.u64) (zs:=Lib.pow10Tab) (by kernel_rfl) (by kernel_rfl) Tryz.underlying247 Tryz.underlying106 (by kernel_rfl) (by kernel_rfl) h3⟩
theorem lifted(os:Os)(zD:os.Started)(H:Type)(enc:TypeId × Value->H):
 ReturnsInHanded {} Tryz.checked os 3 .any (fun w args=>(Rows.topJoinsSpec.pre enc Tryz.prog Tryz.f3 Rows.topJoinsRow.domain false w args/\laidMetH Tryz.prog Rows.topJoinsRow.laid w)/\sizedMet enc Tryz.prog Tryz.f3 (OpenSpec.ofChange Rows.topJoinsSpec) false w args)
  (Rows.topJoinsSpec.post enc Tryz.prog Tryz.f3 false true false false):=by
 refine zC (C:=Tryz.checked) (X:=fun w _=>laidMetH Tryz.prog Rows.topJoinsRow.laid w) (fun _ _ _ hh h=>h.of_heap hh) own zD (by kernel_rfl) Tryz.func3
  (ChangeSpec.witness_shaped (enc:=enc) (C:=Tryz.checked) (os:=os) (X:=fun w _=>laidMetH Tryz.prog Rows.topJoinsRow.laid w) false (World.laidAll Tryz.prog os Rows.topJoinsRow.laid) #[.agg #[.string ByteArray.empty,.string ByteArray.empty,.string ByteArray.empty,.string ByteArray.empty,.string ByteArray.empty,.string ByteArray.empty,.string ByteArray.empty,.string ByteArray.empty,.bool false],.string ByteArray.empty,.slice none 0 0] 8 (World.laidAll_os _ _ _)
   (World.shaped_of_ZipB (by kernel_rfl) (by kernel_rfl)) (by kernel_rfl) (by kernel_rfl) (by kernel_rfl)
   (by rw[MakeChecks.laidMetH_plain _ _ _ (by kernel_rfl)];exact laidMet_laidAll _ (by kernel_rfl) (by kernel_rfl))) ?_
 intro W base args ds gs before zf hW Jb hL;have jj:∀(j:Nat) t v,Tryz.f3.params[j]?=some t->args[j]?=some v->Value.okWide Tryz.prog W .any base t v:=zf;have hW':=hW;obtain⟨p,q,hA0,hV,rfl,W4,hnd⟩:=hW;have hA:DataW.TrodAll enc Tryz.prog W 0 (fun _=>true) true Tryz.f3.params.toList args.toList ds p:=hA0;rw[Tryz.params3]at hA jj;obtain⟨v0,vs0,d0,ds0,p0,q0,aA4,rfl,rfl,h0,r0⟩:=trodAll_cons hA;obtain⟨v1,vs1,d1,ds1,p1,q1,rfl,rfl,rfl,h1,r1⟩:=trodAll_cons r0;obtain⟨v2,vs2,d2,ds2,p2,q2,rfl,rfl,rfl,h2,r2⟩:=trodAll_cons r1;obtain⟨rfl,rfl,rfl⟩:=trodAll_nil r2;obtain rfl:args=#[v0,v1,v2]:=by cases args;simp_all
 obtain⟨rfl,rfl⟩:=trodVars_none hV;have k0:=h0;have lt0:∀x∈p0,x.block<W.heap.size:=by obtain⟨m,hm⟩:=k0;exact DataW.trod_lt m _ _ _ hm
 obtain⟨e0,b0,y0,z0,rfl⟩:=Rm (jj 0 25 v0 rfl rfl) h0;obtain⟨a1,rfl,rfl,rfl,w1⟩:=open_string Tryz.underlying9 (jj 1 9 v1 rfl rfl) h1;obtain⟨a2,aF1,aF2,rfl⟩:=okWide_slice Tryz.underlying26 (jj 2 26 v2 rfl rfl);have k2:=h2;have lt2:∀x∈p2,x.block<W.heap.size:=by obtain⟨m,hm⟩:=k2;exact DataW.trod_lt m _ _ _ hm
 obtain⟨e2,Ad⟩:=JY (H:=H) (enc:=enc) (by obtain⟨fuel,hf⟩:=h2;exact⟨fuel,_,by simpa[Value.cells]using hf⟩);have hm:=cell_of_shapedOpen_int (zero:=#[.int .i64 0]) (g:=0) (t:=3) Jb (of_decide_eq_true (by kernel_rfl)) (by kernel_rfl) rfl (by kernel_rfl) (by kernel_rfl) Tryz.underlying3;have hg:=aq3 hm hL;clear hA0 zf;have VD:=EV e0 b0 y0 z0 (L a1) e2 _ _ W hg Ad;rw[qo]at VD;refine VD.mono fun e W' ⟨he,Wr⟩=>?_;subst he;exact⟨_,rfl,_,_,_,[],_,[],hW',trodAll_mk1 (shut_bool Tryz.underlying4 _),(trodAll_cons_mk (Below.trod Qv (by kernel_rfl) (of_decide_eq_true (by kernel_rfl)) k0 Wr lt0) (trodAll_cons_mk (shut_string Tryz.underlying9 w1) (trodAll_cons_mk (Below.trod Qv (by kernel_rfl) (of_decide_eq_true (by kernel_rfl)) k2 Wr lt2) trodAll_mk0))),rfl,Wr.frame _,fun h=>by cases h⟩
theorem holds:Rows.TopJoinsSaid:=
 OpenClaim.holds_of_wide 3 Tryz.f3 rfl rfl rfl rfl rfl rfl rfl ⟨rfl,rfl,rfl,rfl,rfl⟩ rfl rfl rfl rfl rfl (by kernel_rfl) Tryz.func3 (by kernel_rfl)
  (of_decide_eq_true (by kernel_rfl)) (by unfold Func.isWrapper;first|(rw[ae (by decide +kernel)];kernel_rfl)|(rw[aa (by decide +kernel)];exact⟨rfl,rfl⟩))
  (fun os zD H enc _=>lifted os zD H enc)
theorem proved:Rows.TopJoinsCardSaid:=
 Claim7.holds_tied_plain_at .later [] _ _ _ _ holds (fun _ h=>by cases h) (by kernel_rfl) (fun _ h=>by cases h) topJoins_row_tie rfl ⟨rfl,rfl⟩ (by kernel_rfl) rfl
  (fun f fn hf hfn=>by
   obtain rfl:f=3:=ar ((show Tryz.prog.funcNamed "intarsia/intarsiatop.TopJoins" =some 3 by kernel_rfl).symm.trans hf) |>.symm;obtain rfl:fn=Tryz.f3:=(ar (Tryz.func3.symm.trans hfn)).symm;exact⟨by kernel_rfl,fun j t ht=>by
    rw[Tryz.params3]at ht;have hm:t∈[25,9,26]:=by simpa using Array.mem_of_getElem? ht
    have kF:([25,9,26].all fun u=>!Tryz.prog.wantsStandIn u)=true:=by kernel_rfl
    exact(show Tryz.prog.wantsStandIn t=false by simpa using List.all_eq_true.1 kF t hm)⟩)
  (by kernel_rfl)
end Go.Proofs.YtejafaaihodehaaGreatDoor.topJoins
