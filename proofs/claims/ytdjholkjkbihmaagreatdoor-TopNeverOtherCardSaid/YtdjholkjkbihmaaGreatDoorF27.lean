/- Laws and walks of TopNeverOther. -/
import Derived.Deep.DeepCutAuto
import Derived.Test.YtdjholkjkbihmaaGreatDoorF26
namespace Go.Proofs.YtdjholkjkbihmaaGreatDoor
open Go.RowKit
set_option maxRecDepth 100000
set_option maxHeartbeats 4000000
section
attribute [local irreducible] sumS rtObj
theorem PR.eqsE {G:Kn}{x y:Operand}{s s2:List UInt8}{t t2:TypeId}(hn:s=s2)(hx:EV G x (sv s):=by exact ev)(hy:EV G y (sv s2):=by exact ev):PR Tryz.prog G (.binOp .eql t x y t2) (.bool true):=by
 have h:=PR.eqs (P:=Tryz.prog) (t:=t) (t2:=t2) hx hy
 rwa[decide_eq_true hn] at h
theorem PR.eqsF {G:Kn}{x y:Operand}{s s2:List UInt8}{t t2:TypeId}(hn:s≠s2)(hx:EV G x (sv s):=by exact ev)(hy:EV G y (sv s2):=by exact ev):PR Tryz.prog G (.binOp .eql t x y t2) (.bool false):=by
 have h:=PR.eqs (P:=Tryz.prog) (t:=t) (t2:=t2) hx hy
 rwa[decide_eq_false hn] at h
theorem tnever {D:KyD}{w:World}{u0 v0 u1 v1 u2 v2 u3 v3 u4 v4:Value}{Z Z1 Z2:Nat->Shf}{left left2 eC:Int}{dt bt:List UInt8}{c0 c1 c2 c3 c4:Bool}{r:Nat}(hK:EnvK D w)(hW:StoW w u0 v0 u1 v1 u2 v2 u3 v3 u4 v4 Z)(hkeep:∀ {w2:World},Below w.heap.size w w2->RV 4 #[] w2 (.bool true))(hbeg:∀ {w2:World},Below w.heap.size w w2->RT 6 #[.agg (cells8 D.k),.agg (cells8 D.no),i6 (-1)] w2 (stZ Z1 fun a b c d e f g h i j=>kyK D fun r y=>.row 71 33 5 D.sh fun sh=>.ret (.tuple #[.agg (vltC ⟨a,b,c,d,e,f,g,h,i,j,r,y,nv,nv,nv,nv,nv⟩ 1).toArray,sh,i6 0])))(hZ1:∀ i,i<5->(Z1 i).objs.length<2^36/\(Z1 i).fates.length<2^36)(hr:rowsP ((D.mkp [(D.nm dt,D.bx dt)]).length:Int)=(r:Int))(hq:dt.length<=600->BxOk [(D.nm dt,D.bx dt)]/\(∀ i,i<5->PutOk (Z1 i) (D.pnm (D.mkp [(D.nm dt,D.bx dt)])) (pkD D [(D.nm dt,D.bx dt)] r i))/\(pkF D [(D.nm dt,D.bx dt)]).pl.length<2^36/\0<=placeX (pkF D [(D.nm dt,D.bx dt)]).pl (D.nm dt))(hb:bt.length<=65538)(hrd0:(∀ i,i<5->tameS (Z i)=true)->∀ {w2:World} {u0 v0 u1 v1 u2 v2 u3 v3 u4 v4:Value},Below w.heap.size w w2->StoIn w2 u0 v0 u1 v1 u2 v2 u3 v3 u4 v4 (Z 0) (Z 1) (Z 2) (Z 3) (Z 4)->RT 47 #[.agg #[u0,v0,u1,v1,u2,v2,u3,v3,u4,v4,i6 left],.string ⟨(pkF D [(D.nm dt,D.bx dt)]).nm.toArray⟩] w2 (stZ Z fun a b c d e f g h i j=>.ret (.tuple #[.agg #[a,cond c0 (tkV (Z 0) b) b,c,cond c1 (tkV (Z 1) d) d,e,cond c2 (tkV (Z 2) f) f,g,cond c3 (tkV (Z 3) h) h,i,cond c4 (tkV (Z 4) j) j,i6 left2],sv bt,i6 eC])))(hgl:(gotS D bt eC (pkF D [(D.nm dt,D.bx dt)]).nm (D.nm dt)).1.length<=65536)(hg1:(gotS D bt eC (pkF D [(D.nm dt,D.bx dt)]).nm (D.nm dt)).2≠0->(gotS D bt eC (pkF D [(D.nm dt,D.bx dt)]).nm (D.nm dt)).1 = [])(hg0:(gotS D bt eC (pkF D [(D.nm dt,D.bx dt)]).nm (D.nm dt)).2=0->D.nm (gotS D bt eC (pkF D [(D.nm dt,D.bx dt)]).nm (D.nm dt)).1=D.nm dt)(hap:∀ {w2:World} {v:Value} {a b:List UInt8},Below w.heap.size w w2->Sl w2 v 1 2 (txs [a,b])->a.length<=65536->b.length<=600->a≠b->D.nm a=D.nm b->RV 10 #[.agg (cells8 D.idk),v] w2 (.bool false)):RV 3 #[.agg (cells8 D.k),.agg (cells8 D.no),sv dt,.agg #[u0,v0,u1,v1,u2,v2,u3,v3,u4,v4,i6 left]] w (.bool true):=by
 refine enter Tryz.func3 ?_
 obtain⟨k0,k1,k2,k3,k4,k5,k6,k7,k8,k9⟩:=hW.one
 have hk32:(cells8 D.k).size=32:=by rw[cells8_size,hK.ok.k]
 have hn64:(cells8 D.no).size=64:=by rw[cells8_size,hK.ok.no]
 refine rg (ba (fun g0=>?_))
 refine ba (fun g1=>?_)
 refine ba (fun g2=>?_)
 refine p1 .as (en (se (r3 .mv .ln .gtr (sd (fun hbig=>?_) (fun hbig=>?_)))))
 ·skip
  exact rg (cl (fun _ _ h=>hkeep h.m.below) (p1 .as (en (rt (nR (q1 rfl))))))
 ·have hd6:dt.length<=600:=by omega
  obtain⟨hbx,hp,hpln,hpx⟩:=hq hd6
  refine sk (nN (se (rg (p1 .fa (pp (PR.ls [u0,v0,u1,v1,u2,v2,u3,v3,u4,v4]) (p1 .mv (en (bl ?_))))))))
  refine lr 6 (kL [(2,sv dt),(4,pt g0),(5,pt g1),(7,pt g2),(8,.bool false),(25,.agg #[u0,v0,u1,v1,u2,v2,u3,v3,u4,v4]),(26,i6 0)] (un (r1 .lss (se (ct (sk (nN (se (bl (rg (pp (PR.xl 0 [u0,v0]) (aa Tryz.zeroValue28 (fun g3=>sw 0 ?_)))))))))))))
  refine en (rg (p1 .lw (cl (fun _ _ h=>ttame (hW.a0.below h.m.below)) (p1 .not (en (cs (fun htm0=>?_) (fun htm0=>?_)))))))
  ·skip
   exact rg (cl (fun _ _ h=>hkeep h.m.below) (p1 .as (en (rt (bR (nR (nR (bR (nR (q1 rfl))))))))))
  ·skip
   refine sk (bN (nN (rg0 (pp (PR.ad 1) (p1 .mv (en0 ?_))))))
   refine nN (kL [(2,sv dt),(4,pt g0),(5,pt g1),(7,pt g2),(8,.bool false),(25,.agg #[u0,v0,u1,v1,u2,v2,u3,v3,u4,v4]),(26,i6 1)] (un (r1 .lss (se (ct (sk (nN (se (bl (rg (pp (PR.xl 1 [u1,v1]) (aa Tryz.zeroValue28 (fun g4=>sw 0 ?_)))))))))))))
   refine en (rg (p1 .lw (cl (fun _ _ h=>ttame (hW.a1.below h.m.below)) (p1 .not (en (cs (fun htm1=>?_) (fun htm1=>?_)))))))
   ·skip
    exact rg (cl (fun _ _ h=>hkeep h.m.below) (p1 .as (en (rt (bR (nR (nR (bR (nR (q1 rfl))))))))))
   ·skip
    refine sk (bN (nN (rg0 (pp (PR.ad 2) (p1 .mv (en0 ?_))))))
    refine nN (kL [(2,sv dt),(4,pt g0),(5,pt g1),(7,pt g2),(8,.bool false),(25,.agg #[u0,v0,u1,v1,u2,v2,u3,v3,u4,v4]),(26,i6 2)] (un (r1 .lss (se (ct (sk (nN (se (bl (rg (pp (PR.xl 2 [u2,v2]) (aa Tryz.zeroValue28 (fun g5=>sw 0 ?_)))))))))))))
    refine en (rg (p1 .lw (cl (fun _ _ h=>ttame (hW.a2.below h.m.below)) (p1 .not (en (cs (fun htm2=>?_) (fun htm2=>?_)))))))
    ·skip
     exact rg (cl (fun _ _ h=>hkeep h.m.below) (p1 .as (en (rt (bR (nR (nR (bR (nR (q1 rfl))))))))))
    ·skip
     refine sk (bN (nN (rg0 (pp (PR.ad 3) (p1 .mv (en0 ?_))))))
     refine nN (kL [(2,sv dt),(4,pt g0),(5,pt g1),(7,pt g2),(8,.bool false),(25,.agg #[u0,v0,u1,v1,u2,v2,u3,v3,u4,v4]),(26,i6 3)] (un (r1 .lss (se (ct (sk (nN (se (bl (rg (pp (PR.xl 3 [u3,v3]) (aa Tryz.zeroValue28 (fun g6=>sw 0 ?_)))))))))))))
     refine en (rg (p1 .lw (cl (fun _ _ h=>ttame (hW.a3.below h.m.below)) (p1 .not (en (cs (fun htm3=>?_) (fun htm3=>?_)))))))
     ·skip
      exact rg (cl (fun _ _ h=>hkeep h.m.below) (p1 .as (en (rt (bR (nR (nR (bR (nR (q1 rfl))))))))))
     ·skip
      refine sk (bN (nN (rg0 (pp (PR.ad 4) (p1 .mv (en0 ?_))))))
      refine nN (kL [(2,sv dt),(4,pt g0),(5,pt g1),(7,pt g2),(8,.bool false),(25,.agg #[u0,v0,u1,v1,u2,v2,u3,v3,u4,v4]),(26,i6 4)] (un (r1 .lss (se (ct (sk (nN (se (bl (rg (pp (PR.xl 4 [u4,v4]) (aa Tryz.zeroValue28 (fun g7=>sw 0 ?_)))))))))))))
      refine en (rg (p1 .lw (cl (fun _ _ h=>ttame (hW.a4.below h.m.below)) (p1 .not (en (cs (fun htm4=>?_) (fun htm4=>?_)))))))
      ·skip
       exact rg (cl (fun _ _ h=>hkeep h.m.below) (p1 .as (en (rt (bR (nR (nR (bR (nR (q1 rfl))))))))))
      ·have htA:∀ i,i<5->tameS (Z i)=true:=fun i hi=>by
        match i,hi with
        | 0,_=>simpa using htm0
        | 1,_=>simpa using htm1
        | 2,_=>simpa using htm2
        | 3,_=>simpa using htm3
        | 4,_=>simpa using htm4
       have hS:=hW.tame htA
       have hrd:=@hrd0 htA
       refine sk (bN (nN (rg0 (pp (PR.ad 5) (p1 .mv (en0 (nN (kL [(2,sv dt),(4,pt g0),(5,pt g1),(7,pt g2),(8,.bool false),(25,.agg #[u0,v0,u1,v1,u2,v2,u3,v3,u4,v4]),(26,i6 5)] (un (r1 .lss (se (cf (xt (nX (nX (bH (nN ?_)))))))))))))))))
       have hbxl:=hK.ok.bx dt
       refine rg (p2 .lw .lw (ce (fun _ _ h=>hbeg h.m.below) (fun A_a A_b A_c A_d A_e A_f A_g A_h A_i A_j A_r A_y A_sh=>?_)))
       refine osL 13 ?_
       iterate 26 intro
       refine p4 .mv .ext .ext .ext (aa Tryz.zeroValue50 (fun g8=>sw 0 ?_))
       refine p2 .as .as (en (rg (p2 .lw .mv (ce (fun _ _ h=>vPut (q:=⟨A_a,A_b,A_c,A_d,A_e,A_f,A_g,A_h,A_i,A_j,A_r,A_y,nv,nv,nv,nv,nv⟩) (N:=1) (Z:=Z1) (refs:=[]) (bxs:=[]) (ps:=[]) (dt:=dt) (hK.below h.m.below) ⟨⟨⟨h.s 0,h.s 1,(hZ1 0 (by decide)).1,(hZ1 0 (by decide)).2⟩,⟨h.s 2,h.s 3,(hZ1 1 (by decide)).1,(hZ1 1 (by decide)).2⟩,⟨h.s 4,h.s 5,(hZ1 2 (by decide)).1,(hZ1 2 (by decide)).2⟩,⟨h.s 6,h.s 7,(hZ1 3 (by decide)).1,(hZ1 3 (by decide)).2⟩,⟨h.s 8,h.s 9,(hZ1 4 (by decide)).1,(hZ1 4 (by decide)).2⟩⟩,h.s 10,h.s 11,slN,slN,slN,slN,by decide,by decide,by decide⟩ slN (by decide) (by omega) (by show _+0<=_;omega)) (fun B_a B_b B_c B_d B_e B_f B_g B_h B_i B_j B_r B_y B_x B_z B_t B_pd B_pn=>?_)))))
       refine osL 17 ?_
       iterate 34 intro
       refine p4 .mv .ext .ext .ext (sw 0 ?_)
       refine p2 .as .as (en (rg (p1 .lw (ce (fun _ _ h=>vFlush (q:=⟨B_a,B_b,B_c,B_d,B_e,B_f,B_g,B_h,B_i,B_j,B_r,B_y,B_x,B_z,B_t,B_pd,B_pn⟩) (N:=1) (Z:=Z1) (refs:=[]) (bxs:=[(D.nm dt,D.bx dt)]) (ps:=[D.nm dt]) (r:=r) (hK.below h.m.below) ⟨⟨⟨h.s 0,h.s 1,(hZ1 0 (by decide)).1,(hZ1 0 (by decide)).2⟩,⟨h.s 2,h.s 3,(hZ1 1 (by decide)).1,(hZ1 1 (by decide)).2⟩,⟨h.s 4,h.s 5,(hZ1 2 (by decide)).1,(hZ1 2 (by decide)).2⟩,⟨h.s 6,h.s 7,(hZ1 3 (by decide)).1,(hZ1 3 (by decide)).2⟩,⟨h.s 8,h.s 9,(hZ1 4 (by decide)).1,(hZ1 4 (by decide)).2⟩⟩,h.s 10,h.s 11,h.s 12,h.s 14,h.s 15,h.s 16,by decide,by simp,by simp⟩ (h.s 13) hbx hr hp) (fun C_a C_b C_c C_d C_e C_f C_g C_h C_i C_j C_r C_y C_x C_xx C_z C_t C_pd C_pn=>?_)))))
       refine osL 18 ?_
       iterate 36 intro
       refine p3 .mv .ext .ext (sw 0 ?_)
       refine p1 .as (en (se (rg (p3 .mv .nei .mv (gFf (hp:=PR.mv) ?_)))))
       refine gFf (hp:=PR.nei) ?_
       refine p2 .por .mv (gFf (hp:=PR.mv) ?_)
       refine gFf (hp:=PR.nei) ?_
       refine p1 .por (en (cf (sk (nN (kM 0 #[C_a,C_b,C_c,C_d,C_e,C_f,C_g,C_h,C_i,C_j,i6 (-1),C_r,C_y,i6 1,i6 0,C_x,C_z,i6 3,i6 2,i6 1,i6 1,C_t,C_pd,C_pn] ?_)))))
       refine rg (p2 .lw .fa (sc 0 (cs:=#[u0,v0,u1,v1,u2,v2,u3,v3,u4,v4,i6 left,C_r,C_y,i6 1,i6 0,C_x,C_z,i6 3,i6 2,i6 1,i6 1,C_t,C_pd,C_pn]) ?_))
       refine en (rg (p2 .lw .mv (ce (fun _ _ h=>vGet (q:=⟨u0,v0,u1,v1,u2,v2,u3,v3,u4,v4,C_r,C_y,C_x,C_z,C_t,C_pd,C_pn⟩) (N:=1) (lf:=left) (left2:=left2) (Z:=Z) (refs:=[]) (ps:=[D.nm dt]) (p:=(pkF D [(D.nm dt,D.bx dt)])) (x:=C_xx) (s:=D.nm dt) (bt:=bt) (eC:=eC) (c0:=c0) (c1:=c1) (c2:=c2) (c3:=c3) (c4:=c4) (hK.below h.m.below) ⟨hS.below h.m.below,h.s 10,h.s 11,h.s 12,h.s 15,h.s 16,h.s 17,by decide,by simp,by simp⟩ ⟨h.s 14,h.s 13,hpln⟩ hpx hb (fun h3 hS3=>hrd (h.m.below.trans (h3.mono h.m.below.size)) hS3)) (fun E_a E_b E_c E_d E_e E_f E_g E_h E_i E_j E_r E_y E_x E_xx E_z E_t E_pd E_pn=>?_))))
       refine os 0 (fun oE_a cE_a=>?_)
       refine os 1 (fun oE_b cE_b=>?_)
       refine os 2 (fun oE_c cE_c=>?_)
       refine os 3 (fun oE_d cE_d=>?_)
       refine os 4 (fun oE_e cE_e=>?_)
       refine os 5 (fun oE_f cE_f=>?_)
       refine os 6 (fun oE_g cE_g=>?_)
       refine os 7 (fun oE_h cE_h=>?_)
       refine os 8 (fun oE_i cE_i=>?_)
       refine os 9 (fun oE_j cE_j=>?_)
       refine os 10 (fun oE_r cE_r=>?_)
       refine os 11 (fun oE_y cE_y=>?_)
       refine os 12 (fun oE_x cE_x=>?_)
       refine os 13 (fun oE_xx cE_xx=>?_)
       refine os 14 (fun oE_z cE_z=>?_)
       refine os 15 (fun oE_t cE_t=>?_)
       refine os 16 (fun oE_pd cE_pd=>?_)
       refine os 17 (fun oE_pn cE_pn=>?_)
       have oc0:=cond_one (b:=c0) (tkV_one (s:=Z 0) oE_b) oE_b
       have oc1:=cond_one (b:=c1) (tkV_one (s:=Z 1) oE_d) oE_d
       have oc2:=cond_one (b:=c2) (tkV_one (s:=Z 2) oE_f) oE_f
       have oc3:=cond_one (b:=c3) (tkV_one (s:=Z 3) oE_h) oE_h
       have oc4:=cond_one (b:=c4) (tkV_one (s:=Z 4) oE_j) oE_j
       refine p4 .mv .ext .ext .ext (aa Tryz.zeroValue50 (fun g9=>sw 0 ?_))
       refine p2 .as .as (en (se (r2 .mv .nei (sd (fun he=>?_) (fun he=>?_)))))
       ·have hge:=hg1 he
        refine rg (p1 .mv (pp (PR.eqsE hge) (p1 .mv (gDo ?_))))
        exact cl (fun _ _ h=>hkeep h.m.below) (p2 .pand .as (en (rt (nR (q1 rfl)))))
       ·have he2:(gotS D bt eC (pkF D [(D.nm dt,D.bx dt)]).nm (D.nm dt)).2=0:=by omega
        refine sk (nN ?_)
        by_cases hsd:(gotS D bt eC (pkF D [(D.nm dt,D.bx dt)]).nm (D.nm dt)).1=dt
        ·skip
         refine rg (p2 .mv .mv (pp (PR.eqsE hsd) (p1 .mv (gSk ?_))))
         refine gSk ?_
         refine gSk ?_
         refine gSk ?_
         refine gSk ?_
         refine gSk ?_
         refine gSk ?_
         refine gSk ?_
         refine pp (PR.por (b2:=false)) (p1 .mv (gDo ?_))
         exact cl (fun _ _ h=>hkeep h.m.below) (p2 .pand .as (en (rt (q1 rfl))))
        ·skip
         refine rg (p2 .mv .mv (pp (PR.eqsF hsd) (p1 .mv (gDo ?_))))
         refine p1 .fa (gDo ?_)
         refine pp (PR.ls [C_y]) (gDo ?_)
         refine cl (fun _ _ h=>hK.id h.m.below (h.s 29)) (gDo ?_)
         refine p1 .mv (gDo ?_)
         refine p1 .mv (gDo ?_)
         refine bs #[sv ((gotS D bt eC (pkF D [(D.nm dt,D.bx dt)]).nm (D.nm dt)).1),sv dt] (fun g10=>?_)
         refine gDo ?_
         refine cl (fun _ _ h=>hap h.m.below (blkSl (m:=1) (k:=2) (h.m.at 0 rfl) rfl) hgl hd6 hsd (hg0 he2)) (gDo ?_)
         refine p3 .not .por .mv (gDo ?_)
         exact cl (fun _ _ h=>hkeep h.m.below) (p2 .pand .as (en (rt (q1 rfl))))
end
section
attribute [local irreducible] sumS rtObj manB rowS
abbrev ckT :List UInt8:=[97,32,99,104,117,110,107]
def k9 :List UInt8:=9::List.replicate 31 0
def n7 :List UInt8:=7::List.replicate 63 0
def shI (D:KyD)(i:Nat):List Value:=(D.sh.drop (i*33)).take 33
theorem shI_at {D:KyD}{i q:Nat}{u:Value}(h:(shI D i)[q]?=some u):D.sh[i*33+q]?=some u:=by
 unfold shI at h
 rw[List.getElem?_take] at h
 split at h
 ·rwa[List.getElem?_drop] at h
 ·cases h
theorem shI_len {D:KyD}(h:KyOk D){i:Nat}(hi:i<5):(shI D i).length=33:=by
 unfold shI
 rw[List.length_take,List.length_drop,h.sh];omega
theorem s3_I (D:KyD)(h:KyOk D):D.s3=shI D 1++shI D 3++shI D 4:=by
 unfold KyD.s3 shI
 have e:(D.sh.drop 99).take 66=(D.sh.drop (3*33)).take 33++(D.sh.drop (4*33)).take 33:=by
  rw[show(66:Nat)=33+33 from rfl,List.take_add,List.drop_drop]
 rw[e,←List.append_assoc]
theorem list33 {A:List Value}(h:A.length=33):∃ a0 a1 a2 a3 a4 a5 a6 a7 a8 a9 a10 a11 a12 a13 a14 a15 a16 a17 a18 a19 a20 a21 a22 a23 a24 a25 a26 a27 a28 a29 a30 a31 a32,A = [a0,a1,a2,a3,a4,a5,a6,a7,a8,a9,a10,a11,a12,a13,a14,a15,a16,a17,a18,a19,a20,a21,a22,a23,a24,a25,a26,a27,a28,a29,a30,a31,a32]:=by
 match A,h with
 | a0::a1::a2::a3::a4::a5::a6::a7::a8::a9::a10::a11::a12::a13::a14::a15::a16::a17::a18::a19::a20::a21::a22::a23::a24::a25::a26::a27::a28::a29::a30::a31::a32 :: [],_=>exact⟨a0,a1,a2,a3,a4,a5,a6,a7,a8,a9,a10,a11,a12,a13,a14,a15,a16,a17,a18,a19,a20,a21,a22,a23,a24,a25,a26,a27,a28,a29,a30,a31,a32,rfl⟩
theorem bsS3 {A B C:List Value}(hA:A.length=33)(hB:B.length=33)(hC:C.length=33)(w:World):(Instr.buildSlice 51 3 #[(0,.agg A.toArray),(1,.agg B.toArray),(2,.agg C.toArray)]).run Tryz.prog w = .ok (.slice (some ⟨w.heap.size,0,none⟩) 3 3) (w.alloc (.cells (A++B++C).toArray 71)):=by
 obtain⟨a0,a1,a2,a3,a4,a5,a6,a7,a8,a9,a10,a11,a12,a13,a14,a15,a16,a17,a18,a19,a20,a21,a22,a23,a24,a25,a26,a27,a28,a29,a30,a31,a32,rfl⟩:=list33 hA
 obtain⟨b0,b1,b2,b3,b4,b5,b6,b7,b8,b9,b10,b11,b12,b13,b14,b15,b16,b17,b18,b19,b20,b21,b22,b23,b24,b25,b26,b27,b28,b29,b30,b31,b32,rfl⟩:=list33 hB
 obtain⟨c0,c1,c2,c3,c4,c5,c6,c7,c8,c9,c10,c11,c12,c13,c14,c15,c16,c17,c18,c19,c20,c21,c22,c23,c24,c25,c26,c27,c28,c29,c30,c31,c32,rfl⟩:=list33 hC
 kernel_rfl
theorem tkeepsX {D:KyD}{w:World}(hK:EnvK D w)(hr:KyRt D)(hbeg:∀ {w2:World},Below w.heap.size w w2->RT 6 #[.agg (cells8 k9),.agg (cells8 n7),i6 (-1)] w2 (stZ (kZ1 D) fun a b c d e f g h i j=>kyK D fun r y=>.row 71 33 5 D.sh fun sh=>.ret (.tuple #[.agg (vltC ⟨a,b,c,d,e,f,g,h,i,j,r,y,nv,nv,nv,nv,nv⟩ 1).toArray,sh,i6 0]))):RV 4 #[] w (.bool true):=by
 refine enter Tryz.func4 ?_
 have hbxl:=hK.ok.bx ckT
 have hpln:(pkF D (kL2 D ckT)).pl.length<2^36:=by have:=pl_le hK.ok (kBx2 hK.ok (dt:=ckT) (by decide));show(D.pl (kL2 D ckT)).length<2^36;omega
 have hs3:shI D 1++shI D 3++shI D 4=D.s3:=(s3_I D hK.ok).symm
 have hs3l:D.s3.toArray.toList.length=3*33:=by rw[←hs3];simp[shI_len hK.ok]
 refine r1 .as (rg (pp (PR.bd (cells8 k9)) (pp (PR.bd (cells8 n7)) (ce (fun _ _ h=>hbeg h.m.below) (fun A_a A_b A_c A_d A_e A_f A_g A_h A_i A_j A_r A_y A_sh=>?_)))))
 refine osL 13 ?_
 iterate 26 intro
 refine p4 .mv .ext .ext .ext (aa Tryz.zeroValue50 (fun g0=>sw 0 ?_))
 refine p2 .as .as (en (se (rg (p3 .mv .nei .mv (gFf (hp:=PR.mv) ?_)))))
 refine gFf (hp:=PR.lr) ?_
 refine gFf (hp:=PR.nei) ?_
 refine p1 .por (en (cf (sk (nN (rg (p1 .lw (ce (fun _ _ h=>vPut (q:=⟨A_a,A_b,A_c,A_d,A_e,A_f,A_g,A_h,A_i,A_j,A_r,A_y,nv,nv,nv,nv,nv⟩) (N:=1) (Z:=kZ1 D) (refs:=[]) (bxs:=[]) (ps:=[]) (dt:=ckT) (hK.below h.m.below) ⟨⟨⟨h.s 0,h.s 1,by show 1<2^36;decide,by show 0<2^36;decide⟩,⟨h.s 2,h.s 3,by show 1<2^36;decide,by show 0<2^36;decide⟩,⟨h.s 4,h.s 5,by show 1<2^36;decide,by show 0<2^36;decide⟩,⟨h.s 6,h.s 7,by show 1<2^36;decide,by show 0<2^36;decide⟩,⟨h.s 8,h.s 9,by show 1<2^36;decide,by show 0<2^36;decide⟩⟩,h.s 10,h.s 11,slN,slN,slN,slN,by decide,by decide,by decide⟩ slN (by decide) (by decide) (by show _+0<=_;have h7:ckT.length=7:=rfl;omega)) (fun B_a B_b B_c B_d B_e B_f B_g B_h B_i B_j B_r B_y B_x B_z B_t B_pd B_pn=>?_))))))))
 refine osL 17 ?_
 iterate 34 intro
 refine p4 .mv .ext .ext .ext (sw 0 ?_)
 refine p2 .as .as (en (kM 0 #[B_a,B_b,B_c,B_d,B_e,B_f,B_g,B_h,B_i,B_j,i6 (-1),B_r,B_y,i6 1,i6 0,B_x,B_z,i6 3,i6 2,i6 1,i6 1,B_t,B_pd,B_pn] ?_))
 refine dr [_,_,.tel [9] (.row 9 1 1 (txs [(D.nm ckT)]) fun v=>.ret v),.tel [9] (.row 9 1 1 (txs [(D.nm ckT)]) fun v=>.ret (.agg (snapL 1 v).toArray)),.tel [73,3,106,23,88,158,118,161,9] (stZ (kZ3 D ckT) fun a b c d e f g h i j=>kyK D fun r y=>.row 88 5 1 (refsC [(kqM D ckT)]) fun x=>.row 158 3 (pkF D (kL2 D ckT)).pl.length (plsC (pkF D (kL2 D ckT)).pl) fun xx=>.row 118 2 1 [tx (pkF D (kL2 D ckT)).nm,xx] fun z=>.row 161 34 0 [] fun t=>.row 9 1 (pinS [(D.nm ckT)] (kqM D ckT)).length (txs (pinS [(D.nm ckT)] (kqM D ckT))) fun pn=>.ret (.tuple #[(.agg (vltC ⟨a,b,c,d,e,f,g,h,i,j,r,y,x,z,t,nv,pn⟩ 2).toArray),i6 0])),.tel [73,3,106,23,88,158,118,161,9] (stZ (kZ3 D ckT) fun a b c d e f g h i j=>kyK D fun r y=>.row 88 5 1 (refsC [(kqM D ckT)]) fun x=>.row 158 3 (pkF D (kL2 D ckT)).pl.length (plsC (pkF D (kL2 D ckT)).pl) fun xx=>.row 118 2 1 [tx (pkF D (kL2 D ckT)).nm,xx] fun z=>.row 161 34 0 [] fun t=>.row 9 1 (pinS [(D.nm ckT)] (kqM D ckT)).length (txs (pinS [(D.nm ckT)] (kqM D ckT))) fun pn=>.ret (.tuple #[(.agg (vltC ⟨a,b,c,d,e,f,g,h,i,j,r,y,x,z,t,nv,pn⟩ 2).toArray),i6 0])),.tel [73,3,106,23,88,158,118,161,9] (stZ (kZ3 D ckT) fun a b c d e f g h i j=>kyK D fun r y=>.row 88 5 1 (refsC [(kqM D ckT)]) fun x=>.row 158 3 (pkF D (kL2 D ckT)).pl.length (plsC (pkF D (kL2 D ckT)).pl) fun xx=>.row 118 2 1 [tx (pkF D (kL2 D ckT)).nm,xx] fun z=>.row 161 34 0 [] fun t=>.row 9 1 (pinS [(D.nm ckT)] (kqM D ckT)).length (txs (pinS [(D.nm ckT)] (kqM D ckT))) fun pn=>.ret (.agg (vltC ⟨a,b,c,d,e,f,g,h,i,j,r,y,x,z,t,nv,pn⟩ 2).toArray)),_,.any,_] [] [⟨8,_,_,_,0,.tel [73,3,106,23,88,158,118,161,9] (stZ (kZ3 D ckT) fun a b c d e f g h i j=>kyK D fun r y=>.row 88 5 1 (refsC [(kqM D ckT)]) fun x=>.row 158 3 (pkF D (kL2 D ckT)).pl.length (plsC (pkF D (kL2 D ckT)).pl) fun xx=>.row 118 2 1 [tx (pkF D (kL2 D ckT)).nm,xx] fun z=>.row 161 34 0 [] fun t=>.row 9 1 (pinS [(D.nm ckT)] (kqM D ckT)).length (txs (pinS [(D.nm ckT)] (kqM D ckT))) fun pn=>.ret (.agg (vltC ⟨a,b,c,d,e,f,g,h,i,j,r,y,x,z,t,nv,pn⟩ 2).toArray))⟩] [0] [6] ⟨rfl,trivial⟩ (fun Bs=>⟨kv (oP (PR.lw ez (MB.ox 0 rfl (by kernel_rfl)))),kv (oP (PR.mv ez)),kv (oS (txs [(D.nm ckT)]).toArray (fun _ _ h=>h.size) (.cons ed .nil)),kv (oSnap rfl rfl (by kernel_rfl) (by kernel_rfl)),kv (oO (T:=.row 9 1 1 (txs [(D.nm ckT)]) fun v=>.ret (.agg (snapL 1 v).toArray)) 36 (fun _ _ h=>h) fun v=>oE (fun _ _ h=>h.1.size) (fun _ _ h=>kCommit (q:=⟨B_a,B_b,B_c,B_d,B_e,B_f,B_g,B_h,B_i,B_j,B_r,B_y,B_x,B_z,B_t,B_pd,B_pn⟩) (dt:=ckT) (hK.below h.1.low) (by decide) ⟨⟨⟨h.1.rows _ (List.mem_of_getElem? (i:=0) rfl),h.1.rows _ (List.mem_of_getElem? (i:=1) rfl),by show 1<2^36;decide,by show 0<2^36;decide⟩,⟨h.1.rows _ (List.mem_of_getElem? (i:=2) rfl),h.1.rows _ (List.mem_of_getElem? (i:=3) rfl),by show 1<2^36;decide,by show 0<2^36;decide⟩,⟨h.1.rows _ (List.mem_of_getElem? (i:=4) rfl),h.1.rows _ (List.mem_of_getElem? (i:=5) rfl),by show 1<2^36;decide,by show 0<2^36;decide⟩,⟨h.1.rows _ (List.mem_of_getElem? (i:=6) rfl),h.1.rows _ (List.mem_of_getElem? (i:=7) rfl),by show 1<2^36;decide,by show 0<2^36;decide⟩,⟨h.1.rows _ (List.mem_of_getElem? (i:=8) rfl),h.1.rows _ (List.mem_of_getElem? (i:=9) rfl),by show 1<2^36;decide,by show 0<2^36;decide⟩⟩,h.1.rows _ (List.mem_of_getElem? (i:=10) rfl),h.1.rows _ (List.mem_of_getElem? (i:=11) rfl),h.1.rows _ (List.mem_of_getElem? (i:=12) rfl),h.1.rows _ (List.mem_of_getElem? (i:=14) rfl),h.1.rows _ (List.mem_of_getElem? (i:=15) rfl),h.1.rows _ (List.mem_of_getElem? (i:=16) rfl),by decide,by show 1<2^36;decide,by show 1<2^36;decide⟩ (h.1.rows _ (List.mem_of_getElem? (i:=13) rfl)) (SL.qr (e:=9) (List.mem_singleton.2 rfl) _ _ h)) (.cons (EV.yy ed) (.cons EV.qq .nil))),kv (oM .move (.inl rfl)),kv (oXg 0),kv (oXv (c:=i6 0) 1),ks 0,kv (oP (PR.as ed)),trivial⟩) (fun C_a C_b C_c C_d C_e C_f C_g C_h C_i C_j C_r C_y C_x C_xx C_z C_t C_pn=>?_)
 refine kM 0 #[C_a,C_b,C_c,C_d,C_e,C_f,C_g,C_h,C_i,C_j,i6 (-1),C_r,C_y,i6 2,i6 0,C_x,C_z,i6 3,i6 2,i6 1,i6 1,C_t,nv,C_pn] ?_
 refine dr [_,_,_,_,_,_,_,_,_,_,_,.tel [71] (.row 71 33 3 D.s3 fun v=>.ret v),.tel [73,3,106,23,88,158,118,161] (stZ (kZ4 D ckT) fun a b c d e f g h i j=>kyK D fun r y=>rtK 2 (kqM D ckT) (pkF D (kL2 D ckT)) fun x z t=>.ret (.tuple #[(.agg (vltC ⟨a,b,c,d,e,f,g,h,i,j,r,y,x,z,t,nv,nv⟩ 2).toArray),i6 0])),.tel [73,3,106,23,88,158,118,161] (stZ (kZ4 D ckT) fun a b c d e f g h i j=>kyK D fun r y=>rtK 2 (kqM D ckT) (pkF D (kL2 D ckT)) fun x z t=>.ret (.tuple #[(.agg (vltC ⟨a,b,c,d,e,f,g,h,i,j,r,y,x,z,t,nv,nv⟩ 2).toArray),i6 0])),.tel [73,3,106,23,88,158,118,161] (stZ (kZ4 D ckT) fun a b c d e f g h i j=>kyK D fun r y=>rtK 2 (kqM D ckT) (pkF D (kL2 D ckT)) fun x z t=>.ret (.agg (vltC ⟨a,b,c,d,e,f,g,h,i,j,r,y,x,z,t,nv,nv⟩ 2).toArray)),_,.any,.any,_] [⟨16,7,17,50,#[nv,nv,nv,nv,nv,nv,nv,nv,nv,nv,i6 0,nv,nv,i6 0,i6 0,nv,nv,i6 0,i6 0,i6 0,i6 0,nv,nv,nv],.tel [73,3,106,23,88,158,118,161] (stZ (kZ4 D ckT) fun a b c d e f g h i j=>kyK D fun r y=>rtK 2 (kqM D ckT) (pkF D (kL2 D ckT)) fun x z t=>.ret (.agg (vltC ⟨a,b,c,d,e,f,g,h,i,j,r,y,x,z,t,nv,nv⟩ 2).toArray))⟩] [] [] [8] trivial (fun Bs=>⟨kv (oP (PR.fa ez)),kv (oP (PR.ls [C_a,C_b,C_c,C_d,C_e,C_f,C_g,C_h,C_i,C_j,i6 (-1)] ed (mk' 0))),kv (oP (PR.mv ez)),kv (oP (PR.ix (p:=1) (i:=1) (n:=5) (m:=33) rfl ed (SL.zr (e:=71) (List.mem_of_getElem? (i:=46) rfl)) EV.k rfl rfl (by decide))),kv (oP (PR.lq (ys:=shI D 1) (fun _ _ hu=>shI_at hu) ed (SL.zr (e:=71) (List.mem_of_getElem? (i:=46) rfl)) (by decide) rfl (by rw[shI_len hK.ok (by decide)];rfl))),kv (oP (PR.mv ez)),kv (oP (PR.ix (p:=3) (i:=3) (n:=5) (m:=33) rfl ed (SL.zr (e:=71) (List.mem_of_getElem? (i:=46) rfl)) EV.k rfl rfl (by decide))),kv (oP (PR.lq (ys:=shI D 3) (fun _ _ hu=>shI_at hu) ed (SL.zr (e:=71) (List.mem_of_getElem? (i:=46) rfl)) (by decide) rfl (by rw[shI_len hK.ok (by decide)];rfl))),kv (oP (PR.mv ez)),kv (oP (PR.ix (p:=4) (i:=4) (n:=5) (m:=33) rfl ed (SL.zr (e:=71) (List.mem_of_getElem? (i:=46) rfl)) EV.k rfl rfl (by decide))),kv (oP (PR.lq (ys:=shI D 4) (fun _ _ hu=>shI_at hu) ed (SL.zr (e:=71) (List.mem_of_getElem? (i:=46) rfl)) (by decide) rfl (by rw[shI_len hK.ok (by decide)];rfl))),kv (oS D.s3.toArray (fun _ _ h=>h.size) (.cons ed (.cons ed (.cons ed .nil))) (hr:=fun w=>hs3▸bsS3 (shI_len hK.ok (by decide)) (shI_len hK.ok (by decide)) (shI_len hK.ok (by decide)) w) (hs:=hs3l)),kv (oO1 (s:=52) (fun _ _ h=>h) fun v=>oE (fun _ _ h=>h.1.size) (fun _ _ h=>kOpen (dt:=ckT) (hK.below h.1.low) (by decide) ⟨⟨h.1.rows _ (List.mem_of_getElem? (i:=0) rfl),h.1.rows _ (List.mem_of_getElem? (i:=1) rfl),by show 3<2^36;decide,by show 0<2^36;decide⟩,⟨h.1.rows _ (List.mem_of_getElem? (i:=2) rfl),h.1.rows _ (List.mem_of_getElem? (i:=3) rfl),by show 3<2^36;decide,by show 0<2^36;decide⟩,⟨h.1.rows _ (List.mem_of_getElem? (i:=4) rfl),h.1.rows _ (List.mem_of_getElem? (i:=5) rfl),by show 3<2^36;decide,by show 0<2^36;decide⟩,⟨h.1.rows _ (List.mem_of_getElem? (i:=6) rfl),h.1.rows _ (List.mem_of_getElem? (i:=7) rfl),by show 3<2^36;decide,by show 0<2^36;decide⟩,⟨h.1.rows _ (List.mem_of_getElem? (i:=8) rfl),h.1.rows _ (List.mem_of_getElem? (i:=9) rfl),by show 3<2^36;decide,by show 0<2^36;decide⟩⟩ (SL.qr (e:=71) (List.mem_singleton.2 rfl) _ _ h)) (.cons (EV.yy ed) (.cons EV.qq .nil))),kv (oM .move (.inl rfl)),kv (oXg 0),kv (oXv (c:=i6 0) 1),kn 0 Tryz.zeroValue50 (V:=.agg #[nv,nv,nv,nv,nv,nv,nv,nv,nv,nv,i6 0,nv,nv,i6 0,i6 0,nv,nv,i6 0,i6 0,i6 0,i6 0,nv,nv,nv]),kp 0,kv (oP (PR.as ed)),trivial⟩) (fun g1 E_a E_b E_c E_d E_e E_f E_g E_h E_i E_j E_r E_y E_x E_xx E_z E_t=>?_)
 refine kM 0 #[E_a,E_b,E_c,E_d,E_e,E_f,E_g,E_h,E_i,E_j,i6 (-1),E_r,E_y,i6 2,i6 0,E_x,E_z,i6 3,i6 2,i6 1,i6 1,E_t,nv,nv] ?_
 refine rg (p2 .lw .mv (ce (fun _ _ h=>kGet (q:=⟨E_a,E_b,E_c,E_d,E_e,E_f,E_g,E_h,E_i,E_j,E_r,E_y,E_x,E_z,E_t,nv,nv⟩) (refs:=[(kqM D ckT)]) (ps:=[]) (x:=E_xx) (dt:=ckT) (hK.below h.m.below) hr (by decide) ⟨⟨⟨h.s 0,h.s 1,by show 3<2^36;decide,by show 0<2^36;decide⟩,⟨h.s 2,h.s 3,by show 3<2^36;decide,by show 0<2^36;decide⟩,⟨h.s 4,h.s 5,by show 3<2^36;decide,by show 0<2^36;decide⟩,⟨h.s 6,h.s 7,by show 3<2^36;decide,by show 0<2^36;decide⟩,⟨h.s 8,h.s 9,by show 3<2^36;decide,by show 0<2^36;decide⟩⟩,h.s 10,h.s 11,h.s 12,h.s 15,slN,slN,by show 1<2^36;decide,by decide,by decide⟩ ⟨h.s 14,h.s 13,hpln⟩) (fun F_a F_b F_c F_d F_e F_f F_g F_h F_i F_j F_r F_y F_x F_xx F_z F_t F_pd F_pn=>?_)))
 refine os 0 (fun oF_a cF_a=>?_)
 refine os 1 (fun oF_b cF_b=>?_)
 refine os 2 (fun oF_c cF_c=>?_)
 refine os 3 (fun oF_d cF_d=>?_)
 refine os 4 (fun oF_e cF_e=>?_)
 refine os 5 (fun oF_f cF_f=>?_)
 refine os 6 (fun oF_g cF_g=>?_)
 refine os 7 (fun oF_h cF_h=>?_)
 refine os 8 (fun oF_i cF_i=>?_)
 refine os 9 (fun oF_j cF_j=>?_)
 refine os 10 (fun oF_r cF_r=>?_)
 refine os 11 (fun oF_y cF_y=>?_)
 refine os 12 (fun oF_x cF_x=>?_)
 refine os 13 (fun oF_xx cF_xx=>?_)
 refine os 14 (fun oF_z cF_z=>?_)
 refine os 15 (fun oF_t cF_t=>?_)
 refine os 16 (fun oF_pd cF_pd=>?_)
 refine os 17 (fun oF_pn cF_pn=>?_)
 have oc0:=cond_one (b:=true) (tkV_one (s:=kZ4 D ckT 0) oF_b) oF_b
 have oc1:=cond_one (b:=true) (tkV_one (s:=kZ4 D ckT 1) oF_d) oF_d
 have oc2:=cond_one (b:=true) (tkV_one (s:=kZ4 D ckT 2) oF_f) oF_f
 have oc3:=cond_one (b:=true) (tkV_one (s:=kZ4 D ckT 3) oF_h) oF_h
 have oc4:=cond_one (b:=true) (tkV_one (s:=kZ4 D ckT 4) oF_j) oF_j
 refine p4 .mv .ext .ext .ext (aa Tryz.zeroValue50 (fun g2=>sw 0 ?_))
 refine p2 .as .as (en (rg (p3 .mv .eqi .mv (gTt (hp:=PR.mv) ?_))))
 refine gTt (hp:=PR.eqi) ?_
 refine p2 .pand .mv (gTt (hp:=PR.mv) ?_)
 refine gTt (hp:=PR.eqi) ?_
 refine p2 .pand .mv (gTt (hp:=PR.mv) ?_)
 refine gTt (hp:=PR.eqi) ?_
 refine p2 .pand .mv (gTt (hp:=PR.mv) ?_)
 refine gTt (hp:=PR.eqs) ?_
 refine p2 .pand .mv (gTt (hp:=PR.fa) ?_)
 refine gTt (hp:=PR.fq) ?_
 refine gTt (hp:=PR.ld) ?_
 refine gTt (hp:=PR.lr) ?_
 refine gTt (hp:=PR.eqi) ?_
 exact p2 .pand .as (en (rt (q1 rfl)))
end
theorem f3_le {a b c:Fit}(ha:FitOk a){d:List UInt8}(h:f3 a b c=some d):d.length<=65536:=by
 unfold f3 at h
 split at h
 ·injection h with h
  rw[←h,joinB,List.length_take]
  have:=ha.z1
  omega
 ·cases h
theorem orSm {α:Type}{x y:Option α}{d:α}(h:x.or y=some d):x=some d\/y=some d:=by
 cases x with
 | none=>exact .inr h
 | some v=>exact .inl h
theorem J3_le {a b:Fit}(ha:FitOk a){d:List UInt8}:∀ {l:List Fit},J3 a b l=some d->d.length<=65536
 | _::_,h=>(orSm h).elim (f3_le ha) (J3_le ha)
theorem J2_le {a:Fit}(ha:FitOk a){d:List UInt8}:∀ {l:List Fit},J2 a l=some d->d.length<=65536
 | _::_,h=>(orSm h).elim (J3_le ha) (J2_le ha)
theorem J1_le {d:List UInt8}:∀ {l:List Fit},(∀ f∈l,FitOk f)->J1 l=some d->d.length<=65536
 | _::_,hl,h=>(orSm h).elim (J2_le (hl _ (List.mem_cons_self ..))) (J1_le fun f hf=>hl f (List.mem_cons_of_mem _ hf))
theorem rdS_le (nm:List UInt8)(dd:Nat->List UInt8)(ee:Nat->Int)(kk:Nat->Bool):(rdS nm dd ee kk).1.length<=65536:=by
 unfold rdS
 cases hj:J1 (fitsN nm dd ee 5) with
 | none=>exact Nat.zero_le _
 | some d=>exact J1_le (fitsN_ok nm dd ee).ok hj
def l5 {α:Type}(a b c d e:α):Nat->α
 | 0=>a
 | 1=>b
 | 2=>c
 | 3=>d
 | _=>e
theorem l5_all {α:Type}{p:α->Prop}{a b c d e:α}(h0:p a)(h1:p b)(h2:p c)(h3:p d)(h4:p e):∀ i,p (l5 a b c d e i)
 | 0=>h0
 | 1=>h1
 | 2=>h2
 | 3=>h3
 | _+4=>h4
theorem told_le {s:Shf}{n:Nat}(h:∀ o∈s.objs,o.da.length<=n/\o.wa.length<=n)(nm:List UInt8):(toldS s nm).1.length<=n:=by
 unfold toldS
 split
 ·exact Nat.zero_le _
 ·split
  ·exact Nat.zero_le _
  ·split
   ·exact Nat.zero_le _
   ·rename_i hq
    have hb:findB s.objs nm=true:=by
     cases hb:findB s.objs nm with
     | true=>rfl
     | false=>exact absurd (.inr (.inl hb)) hq
    have hm:=(getD_memX (d:=noOb) (findB_lt hb)).2
    have:=h _ hm
    split
    ·exact this.2
    ·split
     ·rw[flipL_len];exact this.1
     ·exact this.1
theorem tlD_le {l:Int}{s:Shf}{n:Nat}(h:∀ o∈s.objs,o.da.length<=n/\o.wa.length<=n)(nm:List UInt8):(tlD l s nm).length<=n:=by
 unfold tlD
 split
 ·exact Nat.zero_le _
 ·exact told_le h nm
abbrev ddA (left:Int)(Z:Nat->Shf)(nm:List UInt8):Nat->List UInt8:=l5 (tlD left (Z 0) nm) (tlD (lf left) (Z 1) nm) (tlD (lf (lf left)) (Z 2) nm) (tlD (lf (lf (lf left))) (Z 3) nm) (tlD (lf (lf (lf (lf left)))) (Z 4) nm)
abbrev eeA (left:Int)(Z:Nat->Shf)(nm:List UInt8):Nat->Int:=l5 (tlE left (Z 0) nm) (tlE (lf left) (Z 1) nm) (tlE (lf (lf left)) (Z 2) nm) (tlE (lf (lf (lf left))) (Z 3) nm) (tlE (lf (lf (lf (lf left)))) (Z 4) nm)
abbrev kkA (left:Int):Nat->Bool:=l5 (decide (left=0)) (decide ((lf left)=0)) (decide ((lf (lf left))=0)) (decide ((lf (lf (lf left)))=0)) (decide ((lf (lf (lf (lf left))))=0))
theorem shb_tame {z:Shf}(h:tameS z=true):ShB z:=by
 obtain⟨h1,h2,h3⟩:=tameS_len h
 refine⟨by omega,by omega,fun i=>?_⟩
 by_cases hi:i<z.objs.length
 ·have:=(h3 _ (getD_memX (d:=noOb) hi).2).1
  omega
 ·rw[List.getD_eq_getElem?_getD,List.getElem?_eq_none (by omega)];decide
theorem sreadA {w:World}{u0 v0 u1 v1 u2 v2 u3 v3 u4 v4:Value}{Z:Nat->Shf}{left:Int}{nm:List UInt8}(hE:Env w)(hS:StoIn w u0 v0 u1 v1 u2 v2 u3 v3 u4 v4 (Z 0) (Z 1) (Z 2) (Z 3) (Z 4))(ht:∀ i,i<5->tameS (Z i)=true)(hl:-9223372036854775808<=left/\left<=9223372036854775807)(hn:1<=nm.length/\nm.length<=100):RT 47 #[.agg #[u0,v0,u1,v1,u2,v2,u3,v3,u4,v4,i6 left],sv nm] w (stZ Z fun a b c d e f g h i j=>.ret (.tuple #[.agg #[a,cond (tlT left (Z 0) nm) (tkV (Z 0) b) b,c,cond (tlT (lf left) (Z 1) nm) (tkV (Z 1) d) d,e,cond (tlT (lf (lf left)) (Z 2) nm) (tkV (Z 2) f) f,g,cond (tlT (lf (lf (lf left))) (Z 3) nm) (tkV (Z 3) h) h,i,cond (tlT (lf (lf (lf (lf left)))) (Z 4) nm) (tkV (Z 4) j) j,i6 (lf (lf (lf (lf (lf left)))))],.string ⟨(rdS nm (ddA left Z nm) (eeA left Z nm) (kkA left)).1.toArray⟩,i6 (rdS nm (ddA left Z nm) (eeA left Z nm) (kkA left)).2])) :=
 sread hE hS hn (fun i=>Nat.le_trans (l5_all (p:=fun l:List UInt8=>l.length<=2000) (tlD_le (tameS_len (ht 0 (by decide))).2.2 _) (tlD_le (tameS_len (ht 1 (by decide))).2.2 _) (tlD_le (tameS_len (ht 2 (by decide))).2.2 _) (tlD_le (tameS_len (ht 3 (by decide))).2.2 _) (tlD_le (tameS_len (ht 4 (by decide))).2.2 _) i) (by decide)) fun _ hb=>getall (hS.below hb) hl (shb_tame (ht 0 (by decide))) (shb_tame (ht 1 (by decide))) (shb_tame (ht 2 (by decide))) (shb_tame (ht 3 (by decide))) (shb_tame (ht 4 (by decide)))
theorem PR.eqD {G:Kn}{x y:Operand}{t2:TypeId}{C:List UInt8}(hC:C.length=32)(hx:EV G x (.agg (cells8 C)):=by exact ev)(hy:EV G y (.agg (cells8 C)):=by exact ev):PR Tryz.prog G (.binOp .eql 65 x y t2) (.bool true):=fun a w _ ho hg=>
 run_bin ho (hx a w hg) (hy a w hg) (run_eqGuard_agg w _ _ _ _ _ _ (by kernel_rfl)) (by rw[run_eql_struct,eqD8 9998 hC];rfl)
theorem two_dg {X:List UInt8}(hX:X.length=32){j:Nat}{u:Value}(i:Nat)(hi:i<2)(h:(X.map cb)[j]?=some u):(X.map cb++X.map cb)[i*32+j]?=some u:=by
 have hj:j<32:=by have:=(List.getElem?_eq_some_iff.1 h).1;simpa[hX] using this
 rcases(show i=0\/i=1 by omega) with rfl | rfl
 ·rw[Nat.zero_mul,Nat.zero_add,List.getElem?_append_left (by simp[hX,hj])];exact h
 ·rw[List.getElem?_append_right (by simp[hX]),List.length_map,hX,show 1*32+j-32=j by omega];exact h
theorem unlike2 {a b X:List UInt8}{v u:Value}{w:World}(hX:X.length=32)(hab:a≠b)(hV:Sl w v 1 2 (txs [a,b]))(hU:Sl w u 32 2 (X.map cb++X.map cb)):RV 21 #[v,u] w (.bool false):=by
 refine enter Tryz.func21 ?_
 have hba:b≠a:=fun h=>hab h.symm
 have hov:=hV.one
 have hou:=hU.one
 refine r1 .as (se (r1 .as (bl (lr 3 (un (se (rg ?_)))))))
 refine p2 .mv .mv (pp (PR.lr) (p1 .lss (en (ct (sk (nN (se (bl (r1 .as (bl (lr 2 (un (se ?_)))))))))))))
 refine r3 .mv .mv .lss (cf (xt (nX (nX (bH (bN (nN (rg0 (p1 .mv (pp (PR.ad 1) (p1 .as (en0 (nN (un (se (rg (p2 .mv .mv (pp (PR.lr) ?_))))))))))))))))))
 refine p1 .lss (en (ct (sk (nN (se (bl (r1 .as (bl (lr 2 (un (se (r3 .mv .mv .lss (ct ?_)))))))))))))
 refine sk (nN (se (bl (dqb (Y2 .mv .mv (YQ (PR.ix (i:=1)) (YQ (PR.lq (o:=1*32) (cs:=X.map cb++X.map cb) (ys:=X.map cb) (fun j u hj=>two_dg hX 1 (by decide) hj) (hz:=by rw[List.length_map,hX];rfl)) (Y2 .mv .mv (YQ (PR.ix (i:=0)) (YQ (PR.lq (o:=0*32) (cs:=X.map cb++X.map cb) (ys:=X.map cb) (fun j u hj=>two_dg hX 0 (by decide) hj) (hz:=by rw[List.length_map,hX];rfl)) (YQ (PR.eqD hX) (Y1 .mv (YDo ?_)))))))))))))
 refine Y1 .mv (YDo ?_)
 refine Y1 .mv (YDo ?_)
 refine YQ (PR.ix (i:=1)) (YDo ?_)
 refine YQ (PR.lp (v2:=sv b) (cs:=txs [a,b]) rfl) (YDo ?_)
 refine Y1 .mv (YDo ?_)
 refine Y1 .mv (YDo ?_)
 refine YQ (PR.ix (i:=0)) (YDo ?_)
 refine YQ (PR.lp (v2:=sv a) (cs:=txs [a,b]) rfl) (YDo ?_)
 exact YQ ((PR.nes (s:=b) (s2:=a)).to (v2:=.bool true) (by rw[decide_eq_true (by assumption)])) (YQ (PR.pand (b:=true) (b2:=true)) (YE (ct (hb:=rfl) (r1 .as (rt (bR (nR (nR (bR (bR (nR (nR (bR (nR (q1 rfl)))))))))))))))
theorem bsD {k:List UInt8}(hK:k.length=32)(w:World):(Instr.buildSlice 77 1 #[(0,.agg (cells8 k))]).run Tryz.prog w = .ok (.slice (some ⟨w.heap.size,0,none⟩) 1 1) (w.alloc (.cells (cells8 k) 65)):=by
 obtain⟨a0,a1,a2,a3,a4,a5,a6,a7,a8,a9,b0,b1,b2,b3,b4,b5,b6,b7,b8,b9,c0,c1,c2,c3,c4,c5,c6,c7,c8,c9,d0,d1,rfl⟩:=list32 hK
 kernel_rfl
theorem cells8_oneL (X:List UInt8):∀ u∈(cells8 X).toList,u.oneCell'=true:=cb_one (l:=X)
theorem apart2 {k a b X:List UInt8}{v:Value}{w:World}(hk:k.length=32)(hX:X.length=32)(hab:a≠b)(hka:∀ w2 v,Below w.heap.size w w2->Sl w2 v 1 1 [sv a]->RV 20 #[.agg (cells8 k),v] w2 (.agg (cells8 X)))(hkb:∀ w2 v,Below w.heap.size w w2->Sl w2 v 1 1 [sv b]->RV 20 #[.agg (cells8 k),v] w2 (.agg (cells8 X)))(hV:Sl w v 1 2 (txs [a,b])):RV 10 #[.agg (cells8 k),v] w (.bool false):=by
 refine enter Tryz.func10 ?_
 have hov:=hV.one
 have hk2:(cells8 k).size=32:=by rw[cells8_size,hk]
 have hX3:(cells8 X).toList.length=1*32:=by rw[Array.length_toList,cells8_size,hX]
 refine rg (ba (fun g0=>?_))
 refine p1 .as (en (r1 .as (se (r1 .as (bl (nr 65 32 ?_))))))
 refine lr 3 ?_
 refine kL [(1,v),(2,pt g0),(5,nv),(6,i6 0)] (un (se (rg (p2 .mv .mv (pp (PR.lr) (p1 .lss (en (ct (sk (nN (se (bl (dtk 9 [_,_,_,_,_,_,.tel [9] (.row 9 1 1 [sv a] fun v=>.ret v),_,.tel [65] (.row 65 32 1 (cells8 X).toList fun v=>.ret v)] [13,21] (fun Bs=>ha (oP (PR.mv (EV.hh rfl rfl (by kernel_rfl) (by kernel_rfl)))) (ha (oP (PR.lw ez (mk' 0) (hn:=hk2))) (ha (oP (PR.mv ez)) (ha (oP (PR.mv ez)) (ha (oP (PR.ix (p:=0) (i:=0) (n:=2) (m:=1) rfl ed (fun _ _ h=>hV.below h.low) ed rfl rfl (by decide))) (ha (oP (PR.lp (v2:=sv a) (cs:=txs [a,b]) rfl ed (fun _ _ h=>hV.below h.low))) (ha (oS (List.toArray [sv a]) (fun _ _ h=>h.size) (.cons ed .nil)) (ha (oO1 (s:=19) (fun _ _ h=>h) fun v=>oC (xs:=[.tmp 14,.tmp 19]) (vs:=[.agg (cells8 k),v]) (fun _ _ h=>hka _ _ h.1.low (SL.qr (e:=9) (List.mem_singleton.2 rfl) _ _ h)) (.cons (EV.yy ed) (.cons EV.qq .nil))) (ha (oS (cells8 X) (fun _ _ h=>h.size) (.cons ed .nil) (bsD hX) (hs:=hX3)) trivial))))))))) (fun e0=>?_))))))))))))))
 refine apR 1 0 (fun d0=>?_) (h1:=cells8_oneL X)
 refine rc 1 1 (X.map cb) (hn:=rfl) (hx:=rfl) (h:=?_)
 refine os 1 (fun od0 _=>?_)
 refine p1 .as (en0 (bN (nN (rg0 (p1 .mv (pp (PR.ad 1) (p1 .as (en0 (nN ?_)))))))))
 refine kL [(1,v),(2,pt g0),(5,d0),(6,i6 1)] (un (se (rg (p2 .mv .mv (pp (PR.lr) (p1 .lss (en (ct (sk (nN (se (bl (dtk 9 [_,_,_,_,_,_,.tel [9] (.row 9 1 1 [sv b] fun v=>.ret v),_,.tel [65] (.row 65 32 1 (cells8 X).toList fun v=>.ret v)] [13,21] (fun Bs=>ha (oP (PR.mv (EV.hh rfl rfl (by kernel_rfl) (by kernel_rfl)))) (ha (oP (PR.lw ez (mk' 0) (hn:=hk2))) (ha (oP (PR.mv ez)) (ha (oP (PR.mv ez)) (ha (oP (PR.ix (p:=1) (i:=1) (n:=2) (m:=1) rfl ed (fun _ _ h=>hV.below h.low) ed rfl rfl (by decide))) (ha (oP (PR.lp (v2:=sv b) (cs:=txs [a,b]) rfl ed (fun _ _ h=>hV.below h.low))) (ha (oS (List.toArray [sv b]) (fun _ _ h=>h.size) (.cons ed .nil)) (ha (oO1 (s:=19) (fun _ _ h=>h) fun v=>oC (xs:=[.tmp 14,.tmp 19]) (vs:=[.agg (cells8 k),v]) (fun _ _ h=>hkb _ _ h.1.low (SL.qr (e:=9) (List.mem_singleton.2 rfl) _ _ h)) (.cons (EV.yy ed) (.cons EV.qq .nil))) (ha (oS (cells8 X) (fun _ _ h=>h.size) (.cons ed .nil) (bsD hX) (hs:=hX3)) trivial))))))))) (fun e1=>?_))))))))))))))
 refine apR 2 0 (fun d1=>?_) (h1:=cells8_oneL X)
 refine rc 2 2 (X.map cb++X.map cb) (hn:=rfl) (hx:=rfl) (h:=?_)
 refine os 2 (fun od1 _=>?_)
 refine p1 .as (en0 (bN (nN (rg0 (p1 .mv (pp (PR.ad 2) (p1 .as (en0 (nN (kL [(1,v),(2,pt g0),(5,d1),(6,i6 2)] (un (se ?_))))))))))))
 exact rg (p2 .mv .mv (pp (PR.lr) (p1 .lss (en (cf (xt (nX (nX (bH (nN (rg (p2 .mv .mv (cl (fun _ _ h=>unlike2 hX hab (hV.below h.m.below) (h.s 2)) (p1 .as (en (rt (q1 rfl)))))))))))))))))
section

theorem turned_any (x:Wd)(n:Nat)(hn0:0<n)(hn:n<32)(w:World) :
  Calls Tryz.prog 230 #[.int .u32 (nm x),.int .u64 n] w fun e w'=>e = .returned (.int .u32 (nm (rl x (32-n))))/\w'=w:=by
 have H:=Lib.hid (nm_rl x (32-n) (by omega))
 rw[show 32-(32-n)=n by omega] at H
 have hor:∀ a b:Int,bits .or .u32 a b=bits .or .u32 b a:=fun a b=>by
  show IntKind.u32.wrap _=IntKind.u32.wrap _
  rw[BitVec.or_comm]
 have e1:((32:Int)-(n:Int)).toNat=32-n:=by omega
 have HO:=Lib.hid hor
 clear hor
 go_enter Tryz.func230,Tryz.ntmps230
 go_wp2
 go_ret
 exact⟨ret_int (by rw[HO.out];exact H.out),rfl⟩
theorem rturn (x:Wd)(z:Int)(n k:Nat){w:World}(hz:z=(n:Int):=by rfl)(hn0:0<n:=by decide)(hn:n<32:=by decide)(hk:32-n=k:=by decide):RV 230 #[.int .u32 (nm x),.int .u64 z] w (.int .u32 (nm (rl x k))):=by
 subst hz hk
 exact(turned_any x n hn0 hn w).mono fun _ _ h=>⟨h.1,h.2▸Below.refl _ _⟩
section
variable {D:List Deferred}{nt:Nat}{w0:World}{L:LT}{M:MT}{R:List Rw}{g:Nat}{t:TypeId}{l:List Wd}
theorem gWs (i:Nat)(M2:List Wd->MT){X:Act->World->Prop}(h:∀ l2,l2=l->KX D nt w0 L (M2 l2) R X)(e:M[i]?=some (g,isB t (cells l)):=by rfl)(hM:∀ l2,M.set i (g,isB t (cells l2))=M2 l2:=by intro _;rfl):KX D nt w0 L M R X:=gW i (fun l2 h2=>hM l2▸h l2 h2) e
end
theorem rmix2 {v:List Wd}{a b c d:Nat}{x y:Wd}{w:World}(hl:v.length=16)(ha:a<16)(hb:b<16)(hc:c<16)(hd:d<16):RV 171 #[.agg (cells v),i6 (a:Int),i6 (b:Int),i6 (c:Int),i6 (d:Int),.int .u32 (nm x),.int .u32 (nm y)] w (.agg (cells (mixS v a b c d x y))):=by
 refine enter Tryz.func171 ?_
 have l0:=hl
 refine rg (ba (fun g0=>?_))
 refine aa Tryz.zeroValue288 (fun g1=>kM 0 (cells (List.replicate 16 0)) ?_)
 refine en (dqs 11 (Y5 .mv .mv (.ia0 a) .lwd .mv (Y4 (.ia0 b) .lwd .addW .mv (YQ (PR.to PR.addW (by rw[BitVec.add_assoc])) (Y1 (.ia0 a) (YE (swd 1 ?_)))))))
 refine en (gWs 1 (fun l2=>[(g1,isB 288 (cells (List.replicate 16 0))),(g0,isB 288 (cells l2))]) (fun v1x ev1x=>?_))
 have lv1x:v1x.length=16:=by rw[ev1x,List.length_set];assumption
 refine kL [(1,i6 (a:Int)),(2,i6 (b:Int)),(3,i6 (c:Int)),(4,i6 (d:Int)),(5,.int .u32 (nm x)),(6,.int .u32 (nm y)),(7,pt g0),(14,pt g1)] (dqs 10 (Y5 .mv .mv (.ia0 d) .lwd .mv (Y3 (.ia0 a) .lwd .xorW (YC (fun _ _ h=>rturn ((gt v1x d)^^^(gt v1x a)) 16 16 16) (Y1 (.ia0 d) (YE (swd 1 ?_)))))))
 refine en (gWs 1 (fun l2=>[(g1,isB 288 (cells (List.replicate 16 0))),(g0,isB 288 (cells l2))]) (fun v2x ev2x=>?_))
 have lv2x:v2x.length=16:=by rw[ev2x,List.length_set];assumption
 refine kL [(1,i6 (a:Int)),(2,i6 (b:Int)),(3,i6 (c:Int)),(4,i6 (d:Int)),(5,.int .u32 (nm x)),(6,.int .u32 (nm y)),(7,pt g0),(14,pt g1)] (dqs 9 (Y5 .mv .mv (.ia0 c) .lwd .mv (Y4 (.ia0 d) .lwd .addW (.ia0 c) (YE (swd 1 ?_)))))
 refine en (gWs 1 (fun l2=>[(g1,isB 288 (cells (List.replicate 16 0))),(g0,isB 288 (cells l2))]) (fun v3x ev3x=>?_))
 have lv3x:v3x.length=16:=by rw[ev3x,List.length_set];assumption
 refine kL [(1,i6 (a:Int)),(2,i6 (b:Int)),(3,i6 (c:Int)),(4,i6 (d:Int)),(5,.int .u32 (nm x)),(6,.int .u32 (nm y)),(7,pt g0),(14,pt g1)] (dqs 10 (Y5 .mv .mv (.ia0 b) .lwd .mv (Y3 (.ia0 c) .lwd .xorW (YC (fun _ _ h=>rturn ((gt v3x b)^^^(gt v3x c)) 12 12 20) (Y1 (.ia0 b) (YE (swd 1 ?_)))))))
 refine en (gWs 1 (fun l2=>[(g1,isB 288 (cells (List.replicate 16 0))),(g0,isB 288 (cells l2))]) (fun v4x ev4x=>?_))
 have lv4x:v4x.length=16:=by rw[ev4x,List.length_set];assumption
 refine kL [(1,i6 (a:Int)),(2,i6 (b:Int)),(3,i6 (c:Int)),(4,i6 (d:Int)),(5,.int .u32 (nm x)),(6,.int .u32 (nm y)),(7,pt g0),(14,pt g1)] (dqs 11 (Y5 .mv .mv (.ia0 a) .lwd .mv (Y4 (.ia0 b) .lwd .addW .mv (YQ (PR.to PR.addW (by rw[BitVec.add_assoc])) (Y1 (.ia0 a) (YE (swd 1 ?_)))))))
 refine en (gWs 1 (fun l2=>[(g1,isB 288 (cells (List.replicate 16 0))),(g0,isB 288 (cells l2))]) (fun v5x ev5x=>?_))
 have lv5x:v5x.length=16:=by rw[ev5x,List.length_set];assumption
 refine kL [(1,i6 (a:Int)),(2,i6 (b:Int)),(3,i6 (c:Int)),(4,i6 (d:Int)),(5,.int .u32 (nm x)),(6,.int .u32 (nm y)),(7,pt g0),(14,pt g1)] (dqs 10 (Y5 .mv .mv (.ia0 d) .lwd .mv (Y3 (.ia0 a) .lwd .xorW (YC (fun _ _ h=>rturn ((gt v5x d)^^^(gt v5x a)) 8 8 24) (Y1 (.ia0 d) (YE (swd 1 ?_)))))))
 refine en (gWs 1 (fun l2=>[(g1,isB 288 (cells (List.replicate 16 0))),(g0,isB 288 (cells l2))]) (fun v6x ev6x=>?_))
 have lv6x:v6x.length=16:=by rw[ev6x,List.length_set];assumption
 refine kL [(1,i6 (a:Int)),(2,i6 (b:Int)),(3,i6 (c:Int)),(4,i6 (d:Int)),(5,.int .u32 (nm x)),(6,.int .u32 (nm y)),(7,pt g0),(14,pt g1)] (dqs 9 (Y5 .mv .mv (.ia0 c) .lwd .mv (Y4 (.ia0 d) .lwd .addW (.ia0 c) (YE (swd 1 ?_)))))
 refine en (gWs 1 (fun l2=>[(g1,isB 288 (cells (List.replicate 16 0))),(g0,isB 288 (cells l2))]) (fun v7x ev7x=>?_))
 have lv7x:v7x.length=16:=by rw[ev7x,List.length_set];assumption
 refine kL [(1,i6 (a:Int)),(2,i6 (b:Int)),(3,i6 (c:Int)),(4,i6 (d:Int)),(5,.int .u32 (nm x)),(6,.int .u32 (nm y)),(7,pt g0),(14,pt g1)] (dqs 10 (Y5 .mv .mv (.ia0 b) .lwd .mv (Y3 (.ia0 c) .lwd .xorW (YC (fun _ _ h=>rturn ((gt v7x b)^^^(gt v7x c)) 7 7 25) (Y1 (.ia0 b) (YE (swd 1 ?_)))))))
 refine en (gWs 1 (fun l2=>[(g1,isB 288 (cells (List.replicate 16 0))),(g0,isB 288 (cells l2))]) (fun v8x ev8x=>?_))
 have lv8x:v8x.length=16:=by rw[ev8x,List.length_set];assumption
 refine kL [(1,i6 (a:Int)),(2,i6 (b:Int)),(3,i6 (c:Int)),(4,i6 (d:Int)),(5,.int .u32 (nm x)),(6,.int .u32 (nm y)),(7,pt g0),(14,pt g1)] ?_
 have lM:(mixS v a b c d x y).length=16:=(mixS_len v a b c d x y).trans hl
 have lM2:(cells (mixS v a b c d x y)).size=16:=by rw[cells_size,lM]
 refine kM 1 (cells (mixS v a b c d x y)) ?_ (hc:=by subst ev8x ev7x ev6x ev5x ev4x ev3x ev2x ev1x;rfl)
 refine rg (p1 (.lw (hn:=by rw[cells_size];exact lM)) (sw 0 (h1:=cells_one _) (hV:=by rw[cells_size];exact lM) (hW:=by rw[cells_size];first | rfl | assumption) ?_))
 exact en (rt qv)
end
section
def ja (i:Nat):Nat:=if i<4 then i else i-4
def jb (i:Nat):Nat:=if i<4 then i+4 else 4+(i-4+1)%4
def jc (i:Nat):Nat:=if i<4 then i+8 else 8+(i-4+2)%4
def jd (i:Nat):Nat:=if i<4 then i+12 else 12+(i-4+3)%4
def roundTo (m v:List Wd)(r:Nat):Nat->List Wd
 | 0=>v
 | i+1=>mixS (roundTo m v r i) (ja i) (jb i) (jc i) (jd i) (mw m r (2*i)) (mw m r (2*i+1))
theorem roundTo_len (m v:List Wd)(r i:Nat):(roundTo m v r i).length=v.length:=by
 induction i with
 | zero=>rfl
 | succ i ih=>rw[roundTo,mixS_len,ih]
def rowTx :List (List UInt8):=[
 [48,49,50,51,52,53,54,55,56,57,97,98,99,100,101,102],[101,97,52,56,57,102,100,54,49,99,48,50,98,55,53,51],[98,56,99,48,53,50,102,100,97,101,51,54,55,49,57,52],
 [55,57,51,49,100,99,98,101,50,54,53,97,52,48,102,56],[57,48,53,55,50,52,97,102,101,49,98,99,54,56,51,100],[50,99,54,97,48,98,56,51,52,100,55,53,102,101,49,57],
 [99,53,49,102,101,100,52,97,48,55,54,51,57,50,56,98],[100,98,55,101,99,49,51,57,53,48,102,52,56,54,50,97],[54,102,101,57,98,51,48,56,99,50,100,55,49,52,97,53],
 [97,50,56,52,55,54,49,53,102,98,57,101,51,99,100,48]]
def plc (b:UInt8):Nat:=if 97<=b.toNat then b.toNat-97+10 else b.toNat-48
theorem plc_row :∀ r,r<10->∀ i,i<16->plc (bt (rowTx.getD r []) i)=sg r i/\48<=(bt (rowTx.getD r []) i).toNat:=by decide
theorem rowTx_len :∀ r,r<10->(rowTx.getD r []).length=16:=by decide
def fillV (h:List Wd):Nat->List Wd
 | 0=>List.replicate 16 0
 | i+1=>(fillV h i).set i (if i<8 then gt h i else gt eightV (i-8))
theorem fillV_len (h:List Wd)(i:Nat):(fillV h i).length=16:=by
 induction i with
 | zero=>rfl
 | succ i ih=>simp[fillV,ih]
theorem fillV_16 (h:List Wd)(hh:h.length=8):fillV h 16=h++eightV:=by
 match h,hh with
 | [a,b,c,d,e,f,g,i],_=>rfl
theorem wd_sum (b0 b1 b2 b3:UInt8):IntKind.u32.wrap (IntKind.u32.wrap (IntKind.u32.wrap (IntKind.u32.wrap b0.toNat+IntKind.u32.wrap (IntKind.u32.wrap b1.toNat*256))+IntKind.u32.wrap (IntKind.u32.wrap b2.toNat*65536))+IntKind.u32.wrap (IntKind.u32.wrap b3.toNat*16777216))=nm (wd b0 b1 b2 b3):=by
 have:=b0.toNat_lt;have:=b1.toNat_lt;have:=b2.toNat_lt;have:=b3.toNat_lt
 rw[nm_wd];simp only[wrap_u32];omega
theorem w8i (b:UInt8):IntKind.i64.wrap (b.toNat:Int)=(b.toNat:Int):=by
 have:=b.toNat_lt
 exact IntWalk.i64_in _ ⟨by omega,by omega⟩
theorem plc_hi {b:UInt8}(h:97<=b.toNat):plc b=b.toNat-97+10:=if_pos h
theorem plc_lo {b:UInt8}(h:¬ 97<=b.toNat):plc b=b.toNat-48:=if_neg h
theorem rplace0 {b:UInt8}{w:World}(hb0:48<=b.toNat):RV 170 #[.int .u8 (b.toNat:Int)] w (i6 (plc b:Int)):=by
 refine enter Tryz.func170 ?_
 have hb:=b.toNat_lt
 refine r1 .as (se (r2 .mv .geq (sd (fun h97=>?_) (fun h97=>?_))))
 ·have h97:97<=b.toNat:=by omega
  rw[plc_hi h97]
  exact rg (p1 .mv (pp (PR.cv (w8i b)) (pp (PR.sb ((b.toNat-97:Nat):Int)) (pp (PR.ad ((b.toNat-97+10:Nat):Int)) (p1 .as (en (rt (nR (q1 rfl)))))))))
 ·have h97:¬ 97<=b.toNat:=by omega
  rw[plc_lo h97]
  exact sk (nN (rg (p1 .mv (pp (PR.cv (w8i b)) (pp (PR.sb ((b.toNat-48:Nat):Int)) (p1 .as (en (rt (q1 rfl)))))))))
theorem rplace {r i:Nat}(hr:r<10)(hi:i<16){w:World}:RV 170 #[.int .u8 ((bt (rowTx.getD r []) i).toNat:Int)] w (i6 (sg r i:Int)):=by
 obtain⟨h1,h2⟩:=plc_row r hr i hi
 rw[←h1];exact rplace0 h2
theorem reight {w:World}:RV 49 #[] w (.agg (cells eightV)):=by
 refine enter Tryz.func49 ?_
 refine rg (aa Tryz.zeroValue125 (fun g0=>kM 0 (cells (List.replicate 8 0)) ?_))
 refine en (rg (pp (PR.bd (cells eightV)) (sw 0 (h1:=cells_one _) (hV:=by rw[cells_size];rfl) (hW:=by rw[cells_size];first | rfl | assumption) ?_)))
 exact en (rt qv)
section
variable {D:List Deferred}{nt:Nat}{w0:World}{L:LT}{M:MT}{R:List Rw}{ops:Array Oper}{rest:List Oper}{Q:Exit->Act->World->Prop}{tyo t e:TypeId}{ps:String}{af:Array Edge}{d:Nat}
theorem bsO (cs:Array Value){m k:Nat}{parts:List (Nat×Operand)}{vs:LT}(h:∀ v,KX D nt w0 ((d,v)::L) M (⟨v,e,m,k,cs.toList⟩::R) (wpList Tryz.prog ops Q rest))(hp:EVp (St D nt w0 L M R) parts vs:=by exact evp)(hr:∀ w,(Instr.buildSlice t k vs.toArray).run Tryz.prog w = .ok (.slice (some ⟨w.heap.size,0,none⟩) k k) (w.alloc (.cells cs e)):=by intro _;kernel_rfl)(hs:cs.toList.length=k*m:=by rfl)(hk:k<=maxLen:=by decide)(hb:Nat.blt d nt=true:=by rfl):KX D nt w0 L M R (wpList Tryz.prog ops Q (⟨some d,.buildSlice t k parts.toArray,tyo,ps,af,none⟩::rest)) :=
 kOwn (c:=k) (fun a w hq=>⟨w.alloc (.cells cs e),by
  unfold execOp
  simp only[hp.arr hq,hr w,Sem.run_bind,Result.andThen_ok,Sem.run_pure],(Below.refl _ _).alloc (Nat.le_refl _) _,hs,.inr ⟨w.heap.size,k,cs,rfl,Nat.le_refl _,heap_alloc_new w _,Nat.le_refl _,hk,by rw[←hs,Array.length_toList],by rw[←hs,List.take_length]⟩⟩) h hb
end
theorem rrowsT {w:World}:RT 169 #[] w (.row 9 1 10 (txs rowTx) fun v=>.ret v):=by
 refine enter Tryz.func169 ?_
 refine r1 .as (rg (bsO (e:=9) (m:=1) (txs rowTx).toArray (fun vr=>?_)))
 exact p1 .as (en (rt (et [0])))
theorem u32_lo (t:Nat):IntKind.u32.wrap (((t%4294967296:Nat):Int))=nm (BitVec.ofNat 32 t):=by
 rw[wrap_u32];unfold nm;rw[BitVec.toNat_ofNat];omega
theorem u32_up (t:Nat):IntKind.u32.wrap (((t/4294967296:Nat):Int))=nm (BitVec.ofNat 32 (t/4294967296)):=by
 rw[wrap_u32];unfold nm;rw[BitVec.toNat_ofNat];omega
section
variable {G:Kn}{x y:Operand}{t t2:TypeId}{k k2:IntKind}{p q:Int}
theorem PR.remU {n m:Nat}(hx:EV G x (.int .u64 (n:Int)):=by exact ev)(hy:EV G y (.int .u64 (m:Int)):=by exact ev)(h0:(m:Int)≠0:=by decide):PR Tryz.prog G (.binOp .rem t x y t2) (.int .u64 ((n%m:Nat):Int)):=fun a w _ ho hg=>run_rem ho (hx a w hg) (hy a w hg) h0 (by rw[Int.ofNat_tmod])
theorem PR.quoU {n m:Nat}(hn:n<2^64)(hx:EV G x (.int .u64 (n:Int)):=by exact ev)(hy:EV G y (.int .u64 (m:Int)):=by exact ev)(h0:(m:Int)≠0:=by decide):PR Tryz.prog G (.binOp .quo t x y t2) (.int .u64 ((n/m:Nat):Int)):=fun a w _ ho hg=>run_quo ho (hx a w hg) (hy a w hg) h0 (by
 have h1:n/m<=n:=Nat.div_le_self n m
 rw[←Int.ofNat_tdiv]
 obtain⟨q,hq⟩:∃ q,n/m=q:=⟨_,rfl⟩
 rw[hq] at h1 ⊢
 exact IntWalk.u64_in _ ⟨by omega,by omega⟩)
theorem PR.m32 (m:Nat)(hx:EV G x (.int .u32 p):=by exact ev)(hy:EV G y (.int .u32 (m:Int)):=by exact ev):PR Tryz.prog G (.binOp .mul t x y t2) (.int .u32 (IntKind.u32.wrap (p*(m:Int)))):=fun a w _ ho hg=>run_mul ho (hx a w hg) (hy a w hg) rfl
theorem PR.a32 (hx:EV G x (.int .u32 p):=by exact ev)(hy:EV G y (.int .u32 q):=by exact ev):PR Tryz.prog G (.binOp .add t x y t2) (.int .u32 (IntKind.u32.wrap (p+q))):=fun a w _ ho hg=>run_add ho (hx a w hg) (hy a w hg) rfl
theorem PR.ws {b0 b1 b2 b3:UInt8}(hx:EV G x (.int .u32 (IntKind.u32.wrap (IntKind.u32.wrap (bw32 b0+IntKind.u32.wrap (bw32 b1*(256:Nat)))+IntKind.u32.wrap (bw32 b2*(65536:Nat))))):=by exact ev)(hy:EV G y (.int .u32 (IntKind.u32.wrap (bw32 b3*(16777216:Nat)))):=by exact ev):PR Tryz.prog G (.binOp .add t x y t2) (.int .u32 (nm (wd b0 b1 b2 b3))):=fun a w _ ho hg=>run_add ho (hx a w hg) (hy a w hg) (wd_sum b0 b1 b2 b3)
theorem PR.n32 {c:Wd}(hx:EV G x (.int .u32 4294967295):=by exact ev)(hy:EV G y (.int .u32 (nm c)):=by exact ev):PR Tryz.prog G (.binOp .sub t x y t2) (.int .u32 (nm (~~~ c))):=fun a w _ ho hg=>run_sub ho (hx a w hg) (hy a w hg) (by
 have h:=c.isLt
 rw[wrap_u32];unfold nm;rw[BitVec.toNat_not];omega)
end
end
end Go.Proofs.YtdjholkjkbihmaaGreatDoor
