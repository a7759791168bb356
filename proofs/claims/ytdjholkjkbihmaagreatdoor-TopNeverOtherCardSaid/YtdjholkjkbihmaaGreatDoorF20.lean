/- Laws and walks of TopNeverOther. -/
import Derived.Test.YtdjholkjkbihmaaGreatDoorRows
import Derived.WalkSpells
import Derived.WalkLawsBesides
import Derived.StillTailTactics
import Derived.Lib.Hide
import Derived.Test.YtdjholkjkbihmaaGreatDoorF19
namespace Go.Proofs.YtdjholkjkbihmaaGreatDoor
open Go.RowKit
set_option maxRecDepth 100000
set_option maxHeartbeats 4000000
section
attribute [local irreducible] sumS rtObj manB
abbrev cmB (D:KyD)(bxs:List Bx)(x:List UInt8):List Bx:=putB bxs (D.nm (manB 1 x)) (D.bx (manB 1 x))
theorem vCommit {D:KyD}{w:World}{q:Vv}{Z:Nat->Shf}{bxs:List Bx}{ps:List (List UInt8)}{vs:Value}{ckn:List UInt8}{r:Nat}(hK:EnvK D w)(hV:VIn D w q Z [] bxs ps)(hP:Sl w q.z 2 0 [])(hS:Sl w vs 1 1 (txs [ckn]))(hok:NmsOk [ckn])(hx:0<=waitX bxs ckn)(hlb:bxs.length<2^36-1)(hml:(manB 1 ckn).length<=30000)(hsz:(D.bx (manB 1 ckn)).length+szB bxs bxs.length<=32768)(hbx:BxOk (cmB D bxs ckn))(hr:rowsP ((D.mkp (cmB D bxs ckn)).length:Int)=(r:Int))(hp:∀ i,i<5->PutOk (Z i) (D.pnm (D.mkp (cmB D bxs ckn))) (pkD D (cmB D bxs ckn) r i))(hpln:(pkF D (cmB D bxs ckn)).pl.length<2^36)(hk:RtOk 2 [(D.nm (manB 1 ckn))] (noV (pkF D (cmB D bxs ckn))))(hB:∀ x,RtB 2 [(D.nm (manB 1 ckn))] [((pkF D (cmB D bxs ckn)),x)])(hL:(rowS (rtT 2 [(D.nm (manB 1 ckn))] (noV (pkF D (cmB D bxs ckn))))).length<=60000)(hp2:∀ i,i<5->PutOk ((fun i=>pZ Z (D.pnm (D.mkp (cmB D bxs ckn))) (pkD D (cmB D bxs ckn) r) i) i) (nameR 2) (rtObj D (nameR 2) (rowS (rtT 2 [(D.nm (manB 1 ckn))] (noV (pkF D (cmB D bxs ckn))))))):RT 12 #[.agg (vltC q 1).toArray,.agg (snapL 1 vs).toArray] w (stZ (pZ (fun i=>pZ Z (D.pnm (D.mkp (cmB D bxs ckn))) (pkD D (cmB D bxs ckn) r) i) (nameR 2) (fun _=>(rtObj D (nameR 2) (rowS (rtT 2 [(D.nm (manB 1 ckn))] (noV (pkF D (cmB D bxs ckn)))))))) fun a b c d e f g h i j=>kyK D fun r y=>.row 88 5 1 (refsC [(D.nm (manB 1 ckn))]) fun x=>.row 158 3 (pkF D (cmB D bxs ckn)).pl.length (plsC (pkF D (cmB D bxs ckn)).pl) fun xx=>.row 118 2 1 [tx (pkF D (cmB D bxs ckn)).nm,xx] fun z=>.row 161 34 0 [] fun t=>.row 9 1 (pinS ps (D.nm (manB 1 ckn))).length (txs (pinS ps (D.nm (manB 1 ckn)))) fun pn=>.ret (.tuple #[.agg (vltC ⟨a,b,c,d,e,f,g,h,i,j,r,y,x,z,t,nv,pn⟩ 2).toArray,i6 0])):=by
 refine enter Tryz.func12 ?_
 obtain⟨k0,k1,k2,k3,k4,k5,k6,k7,k8,k9⟩:=hV.s.one
 have o_r:=hV.r.one
 have o_y:=hV.y.one
 have o_x:=hV.x.one
 have o_t:=hV.t.one
 have o_pd:=hV.pd.one
 have o_pn:=hV.pn.one
 have o_z:=hP.one
 have o_s:=hS.one
 have hmb:(manB 1 ckn).length<=32768:=by omega
 refine rg (ba (fun g0=>?_))
 refine ba (fun g1=>?_)
 refine aa Tryz.zeroValue50 (fun g2=>p1 .as (en (kM 2 #[q.a,q.b,q.c,q.d,q.e,q.f,q.g,q.h,q.i,q.j,i6 (-1),q.r,q.y,i6 1,i6 0,q.x,q.z,i6 3,i6 2,i6 1,i6 1,q.t,q.pd,q.pn] ?_)))
 refine kM 1 #[.string ⟨List.toArray [109]⟩,i6 1,i6 0,.int .u64 0,i6 1,i6 1,vs,nv,nv,.int .u8 0,.int .u8 0,.int .u8 0,.int .u8 0,.int .u8 0,.int .u8 0,.int .u8 0,.int .u8 0,.int .u8 0,.int .u8 0,.int .u8 0,.int .u8 0,.int .u8 0,.int .u8 0,.int .u8 0,.int .u8 0,.int .u8 0,.int .u8 0,.int .u8 0,.int .u8 0,.int .u8 0,.int .u8 0,.int .u8 0,.int .u8 0,.int .u8 0,.int .u8 0,.int .u8 0,.int .u8 0,.int .u8 0,.int .u8 0,.int .u8 0,.int .u8 0] ?_
 refine rg (p1 .lw (ce (fun _ _ h=>cvl0 (q:=q) (refs:=[]) hK.ok (hV.below h.m.below) (hP.below h.m.below)) (fun na nb nc nd ne nf ng nh ni nj nr ny nx nz nt np nq=>?_)))
 refine os 0 (fun ona cna=>?_)
 refine os 1 (fun onb cnb=>?_)
 refine os 2 (fun onc cnc=>?_)
 refine os 3 (fun ond cnd=>?_)
 refine os 4 (fun one cne=>?_)
 refine os 5 (fun onf cnf=>?_)
 refine os 6 (fun ong cng=>?_)
 refine os 7 (fun onh cnh=>?_)
 refine os 8 (fun oni cni=>?_)
 refine os 9 (fun onj cnj=>?_)
 refine os 10 (fun onr cnr=>?_)
 refine os 11 (fun ony cny=>?_)
 refine os 12 (fun onx cnx=>?_)
 refine os 13 (fun onz cnz=>?_)
 refine os 14 (fun ont cnt=>?_)
 refine os 15 (fun onp cnp=>?_)
 refine os 16 (fun onq cnq=>?_)
 refine sw 2 ?_
 refine en (rg (p1 .lw (cl (fun _ _ h=>mbytes (nm:=ckn) (N:=1) (hK.e.below h.m.below) (hS.below h.m.below) o_s hok (by decide)) (p5 .mv .ext .ext .as .as (en (se (r2 .mv .nei (cf (sk (nN (dr [_,_,_,_,_,_,_,_,_,_,_,_] [] [] [] [8,7] trivial (fun Bs=>⟨kv (oP (PR.lw ez (mk' 2))),kv (oP (PR.lw ez (mk' 1))),kv (oP (PR.fa ez)),kv (oP (PR.ls [ny] ed (mk' 2))),kv (oP (PR.mv ez)),kv (oC (fun _ _ h=>hK.cnm (d:=(manB 1 ckn)) h.low (h.rows _ (List.mem_of_getElem? (i:=11) rfl)) (by omega)) (.cons ed (.cons ed .nil))),kv (oC (fun _ _ h=>vmay (q:=⟨na,nb,nc,nd,ne,nf,ng,nh,ni,nj,nr,ny,nx,nz,nt,np,nq⟩) (N:=1) (D:=D) (Z:=Z) (bxs:=bxs) (ps:=ps) (x:=ckn) ⟨⟨⟨(h.rows _ (List.mem_of_getElem? (i:=0) rfl)),(h.rows _ (List.mem_of_getElem? (i:=1) rfl)),(hV.zz 0 (by decide)).1,(hV.zz 0 (by decide)).2⟩,⟨(h.rows _ (List.mem_of_getElem? (i:=2) rfl)),(h.rows _ (List.mem_of_getElem? (i:=3) rfl)),(hV.zz 1 (by decide)).1,(hV.zz 1 (by decide)).2⟩,⟨(h.rows _ (List.mem_of_getElem? (i:=4) rfl)),(h.rows _ (List.mem_of_getElem? (i:=5) rfl)),(hV.zz 2 (by decide)).1,(hV.zz 2 (by decide)).2⟩,⟨(h.rows _ (List.mem_of_getElem? (i:=6) rfl)),(h.rows _ (List.mem_of_getElem? (i:=7) rfl)),(hV.zz 3 (by decide)).1,(hV.zz 3 (by decide)).2⟩,⟨(h.rows _ (List.mem_of_getElem? (i:=8) rfl)),(h.rows _ (List.mem_of_getElem? (i:=9) rfl)),(hV.zz 4 (by decide)).1,(hV.zz 4 (by decide)).2⟩⟩,(h.rows _ (List.mem_of_getElem? (i:=10) rfl)),(h.rows _ (List.mem_of_getElem? (i:=11) rfl)),(h.rows _ (List.mem_of_getElem? (i:=12) rfl)),(h.rows _ (List.mem_of_getElem? (i:=14) rfl)),(h.rows _ (List.mem_of_getElem? (i:=15) rfl)),(h.rows _ (List.mem_of_getElem? (i:=16) rfl)),by decide,hV.lb,hV.lp⟩ ⟨(h.rows _ (List.mem_of_getElem? (i:=13) rfl)),by decide,fun _ h=>(by cases h)⟩ (hS.below h.low) hx) (.cons ed (.cons ed (.cons ed .nil)))),kv (oP (PR.mv ed)),kv (oP (PR.ext ed)),kv (oP (PR.ext ed)),kv (oP (PR.as ed)),kv (oP (PR.as ed)),trivial⟩) ?_)))))))))))
 refine se (rg (p2 .mv .mv (gFf (hp:=PR.mv) ?_)))
 refine gFf (hp:=PR.nei) ?_
 refine p1 .por (en (cf (sk (nN (rg (p2 .lw .mv (cm (vput (q:=⟨na,nb,nc,nd,ne,nf,ng,nh,ni,nj,nr,ny,nx,nz,nt,np,nq⟩) (Z:=Z) (refs:=[]) (d:=(manB 1 ckn)) hK onesA hV.zz (by decide) hlb hV.lp hmb hsz) (fun v _=>?_))))))))
 refine os 15 (fun ox1 _=>?_)
 refine os 16 (fun ox2 _=>?_)
 refine p4 .mv .ext .ext .ext (sw 2 ?_)
 refine p2 .as .as (en (se (r2 .mv .nei (cf (sk (nN (rg (p1 .lw (cm (vflush (q:=⟨na,nb,nc,nd,ne,nf,ng,nh,ni,nj,nr,ny,nx,nz,nt,v.1,v.2⟩) (Z:=Z) (refs:=[]) (r:=r) hK onesA hV.zz hbx hr hp) (fun u _=>?_))))))))))
 refine osL 10 ?_
 iterate 20 intro
 refine os 13 (fun oy13 _=>?_)
 refine os 14 (fun oy14 _=>?_)
 refine p3 .mv .ext .ext (sw 2 ?_)
 refine p1 .as (en (se (r2 .mv .nei (cf (sk (nN (rg (p1 .fa (pp (PR.ls [i6 1,i6 0,nx,(u 11),i6 3,i6 2,i6 1,i6 1,nt]) (ce (fun _ _ h=>crt1 (p:=(pkF D (cmB D bxs ckn))) (refs:=[]) (h.s 12) (by decide) (h.s 14) (h.s 13) hpln oy13 (h.s 15)) (fun fa_ fx fb fd=>?_)))))))))))
 refine osL 4 ?_
 iterate 8 intro
 refine rc 0 0 (refsC []) (hn:=rfl) (hx:=rfl) (h:=?_)
 refine aa Tryz.zeroValue46 (fun g3=>sw 0 ?_)
 refine en (kM 0 #[i6 1,i6 0,fa_,fb,i6 3,i6 2,i6 1,i6 1,fd] ?_)
 refine rg (p5 .fa .ld .fa .ld .fa (p4 .ld .fa .ld .mv (pp (PR.bd #[.string ⟨List.toArray [109]⟩,i6 1,i6 0,sv (D.nm (manB 1 ckn)),i6 0]) (bs #[.string ⟨List.toArray [109]⟩,i6 1,i6 0,sv (D.nm (manB 1 ckn)),i6 0] (fun g4=>?_)))))
 refine ap 0 (fun v0=>?_)
 refine os 0 (fun ora cra=>?_)
 refine rc 0 1 (refsC [(D.nm (manB 1 ckn))]) (hn:=rfl) (hx:=rfl) (h:=?_)
 refine p1 .fa (s1 1 (cs:=#[i6 1,i6 0,v0,fb,i6 3,i6 2,i6 1,i6 1,fd]) ?_)
 refine en (rg (p2 .lw .lw (ce (fun _ _ h=>vsave (D:=D) (q:=⟨(u 0),(u 1),(u 2),(u 3),(u 4),(u 5),(u 6),(u 7),(u 8),(u 9),nr,ny,nv,nv,nv,nv,v.2⟩) (Z:=(fun i=>pZ Z (D.pnm (D.mkp (cmB D bxs ckn))) (pkD D (cmB D bxs ckn) r) i)) (N:=2) (m:=1) (k:=1) (refs:=[(D.nm (manB 1 ckn))]) (packs:=[((pkF D (cmB D bxs ckn)),fx)]) (bxs:=[]) (ps:=(pinS ps (D.nm (manB 1 ckn)))) (hK.below h.m.below) ⟨⟨h.s 4,h.s 5,(hp2 0 (by decide)).ho,by rw[(hp2 0 (by decide)).hf];decide⟩,⟨h.s 6,h.s 7,(hp2 1 (by decide)).ho,by rw[(hp2 1 (by decide)).hf];decide⟩,⟨h.s 8,h.s 9,(hp2 2 (by decide)).ho,by rw[(hp2 2 (by decide)).hf];decide⟩,⟨h.s 10,h.s 11,(hp2 3 (by decide)).ho,by rw[(hp2 3 (by decide)).hf];decide⟩,⟨h.s 12,h.s 13,(hp2 4 (by decide)).ho,by rw[(hp2 4 (by decide)).hf];decide⟩⟩ (h.s 14) (h.s 15) slN (h.s 21) ⟨h.s 0,h.s 2,fun y hy=>by rw[List.mem_singleton.1 hy];exact h.s 1⟩ cra (h.s 3) ⟨rfl,onx,oy14,rfl,rfl,rfl,rfl,ont⟩ (by decide) (hk.put fx) (hB fx) (by decide) hL hp2) (fun wa wb wc wd we wf wg wh wi wj=>?_))))
 refine osL 10 ?_
 iterate 20 intro
 refine p2 .ext .ext (sw 2 ?_)
 exact p1 .as (en (rt (et [0,1,2,3,4,5,6,7,8,9,24,25,10,11,12,13,31])))
end
section
attribute [local irreducible] sumS
def gotS (D:KyD)(b:List UInt8)(e:Int)(ob s:List UInt8):List UInt8×Int:=if e≠0 then([],e) else if D.pnm b≠ob then([],5) else if(D.tk b s).2≠0 then([],(D.tk b s).2) else D.op (D.tk b s).1.1 (D.tk b s).1.2
theorem packX_one {p:PkS}{x:Value}{s:List UInt8}(h:0<=placeX p.pl s):packX [(p,x)] s=0:=ixOf_yes (i:=0) (d:=noPk) (by simp) (decide_eq_true h) (fun _ h=>absurd h (Nat.not_lt_zero _))
theorem vget {D:KyD}{w:World}{q:Vv}{N lf left2:Int}{Z:Nat->Shf}{refs:List (List UInt8)}{ps:List (List UInt8)}{p:PkS}{x:Value}{s bt:List UInt8}{eC:Int}{c0 c1 c2 c3 c4:Bool}(hK:EnvK D w)(hV:VIn D w q Z refs [] ps)(hP:PIn w q p x)(hpx:0<=placeX p.pl s)(hb:bt.length<=65538)(hrd:∀ {w2:World},Below w.heap.size w w2->RT 47 #[.agg #[q.a,q.b,q.c,q.d,q.e,q.f,q.g,q.h,q.i,q.j,i6 lf],sv p.nm] w2 (stZ Z fun a b c d e f g h i j=>.ret (.tuple #[.agg #[a,cond c0 (tkV (Z 0) b) b,c,cond c1 (tkV (Z 1) d) d,e,cond c2 (tkV (Z 2) f) f,g,cond c3 (tkV (Z 3) h) h,i,cond c4 (tkV (Z 4) j) j,i6 left2],sv bt,i6 eC]))):RT 19 #[.agg (vltL q N lf).toArray,sv s] w (stZ Z fun a b c d e f g h i j=>.ret (.tuple #[.agg #[a,cond c0 (tkV (Z 0) b) b,c,cond c1 (tkV (Z 1) d) d,e,cond c2 (tkV (Z 2) f) f,g,cond c3 (tkV (Z 3) h) h,i,cond c4 (tkV (Z 4) j) j,i6 left2,q.r,q.y,i6 N,i6 0,q.x,q.z,i6 3,i6 2,i6 1,i6 1,q.t,q.pd,q.pn],.string ⟨(gotS D bt eC p.nm s).1.toArray⟩,i6 (gotS D bt eC p.nm s).2])):=by
 refine enter Tryz.func19 ?_
 obtain⟨k0,k1,k2,k3,k4,k5,k6,k7,k8,k9⟩:=hV.s.one
 have o_r:=hV.r.one
 have o_y:=hV.y.one
 have o_x:=hV.x.one
 have o_t:=hV.t.one
 have o_pd:=hV.pd.one
 have o_pn:=hV.pn.one
 have o_z:=hP.z.one
 have hQ:PksIn w q.z [(p,x)]:=⟨hP.z,by simp,fun y hy=>by rw[List.mem_singleton.1 hy];exact⟨hP.x,hP.l⟩⟩
 have hpx0:=packX_one (x:=x) hpx
 have htk:=hK.ok.tk bt s hb
 refine rg (ba (fun g0=>?_))
 refine aa Tryz.zeroValue50 (fun g1=>p2 .as .as (en (kM 1 #[q.a,q.b,q.c,q.d,q.e,q.f,q.g,q.h,q.i,q.j,i6 lf,q.r,q.y,i6 N,i6 0,q.x,q.z,i6 3,i6 2,i6 1,i6 1,q.t,q.pd,q.pn] ?_)))
 refine se (rg (p2 .lw .mv (cl (fun _ _ h=>vwait (packs:=[(p,x)]) (hV.below h.m.below) (hQ.below h.m.below)) ?_)))
 refine p1 .as (en (r2 .mv .geq (cf (hb:=rfl) (sk (nN (rg (p2 .lw .mv (cl (fun _ _ h=>hpx0▸vpckd (packs:=[(p,x)]) (hV.below h.m.below) (hQ.below h.m.below)) (p1 .as (en (se (r2 .mv .lss (cf (hb:=rfl) ?_)))))))))))))
 refine sk (nN (rg (p4 .fa .fq .ld .mv (pp (PR.ix (i:=0) (hs:=SL.p hP.z)) (pp (PR.fs (hs:=SL.p hP.z)) (pp (PR.lp (v2:=sv p.nm) rfl (hs:=SL.p hP.z)) (p1 .as (en (rg (p1 .fa (pp (PR.ls [q.a,q.b,q.c,q.d,q.e,q.f,q.g,q.h,q.i,q.j,i6 lf]) (p1 .mv (ce (fun _ _ h=>hrd h.m.below) (fun wa wb wc wd we wf wg wh wi wj=>?_))))))))))))))
 refine os 0 (fun owa cwa=>?_)
 refine os 1 (fun owb cwb=>?_)
 refine os 2 (fun owc cwc=>?_)
 refine os 3 (fun owd cwd=>?_)
 refine os 4 (fun owe cwe=>?_)
 refine os 5 (fun owf cwf=>?_)
 refine os 6 (fun owg cwg=>?_)
 refine os 7 (fun owh cwh=>?_)
 refine os 8 (fun owi cwi=>?_)
 refine os 9 (fun owj cwj=>?_)
 have oc0:=cond_one (b:=c0) (tkV_one (s:=Z 0) owb) owb
 have oc1:=cond_one (b:=c1) (tkV_one (s:=Z 1) owd) owd
 have oc2:=cond_one (b:=c2) (tkV_one (s:=Z 2) owf) owf
 have oc3:=cond_one (b:=c3) (tkV_one (s:=Z 3) owh) owh
 have oc4:=cond_one (b:=c4) (tkV_one (s:=Z 4) owj) owj
 refine p4 .mv .ext .ext .ext (aa Tryz.zeroValue31 (fun g2=>sw 0 ?_))
 refine p2 .as .as (en (rg (p2 .lw .fa (sc 2 (cs:=#[wa,(cond c0 (tkV (Z 0) wb) wb),wc,(cond c1 (tkV (Z 1) wd) wd),we,(cond c2 (tkV (Z 2) wf) wf),wg,(cond c3 (tkV (Z 3) wh) wh),wi,(cond c4 (tkV (Z 4) wj) wj),i6 left2,q.r,q.y,i6 N,i6 0,q.x,q.z,i6 3,i6 2,i6 1,i6 1,q.t,q.pd,q.pn]) ?_))))
 refine en (se (r2 .mv .nei (sd (fun he=>?_) (fun he=>?_))))
 ·rw[show gotS D bt eC p.nm s=([],eC) from by unfold gotS;rw[if_pos he]]
  refine rg (p2 .lw .mv (sw 1 ?_))
  exact p2 .as .as (en (rt (nR (et [0,1,2,3,4,5,6,7,8,9]))))
 ·have he2:eC=0:=by omega
  subst he2
  refine sk (nN (se (rg (p1 .mv (cl (fun _ _ h=>hK.pna (b:=bt) h.m.below hb) (p2 .mv .nes (en (sd (fun hm=>?_) (fun hm=>?_)))))))))
  ·rw[show gotS D bt 0 p.nm s=([],5) from by unfold gotS;rw[if_neg (by decide),if_pos hm]]
   refine rg (p1 .lw (sw 1 ?_))
   exact p2 .as .as (en (rt (nR (et [0,1,2,3,4,5,6,7,8,9]))))
  ·skip
   refine sk (nN (rg (p2 .mv .mv (cl (fun _ _ h=>hK.ptk (b:=bt) (m:=s) h.m.below hb) (p3 .mv .ext .ext (aa Tryz.zeroValue101 (fun g3=>sw 0 ?_)))))))
   refine p1 .as (en (se (r2 .mv .nei (sd (fun ht=>?_) (fun ht=>?_)))))
   ·rw[show gotS D bt 0 p.nm s=([],(D.tk bt s).2) from by unfold gotS;rw[if_neg (by decide),if_neg hm,if_pos ht]]
    refine rg (p2 .lw .mv (sw 2 ?_))
    exact p2 .as .as (en (rt (nR (et [0,1,2,3,4,5,6,7,8,9]))))
   ·rw[show gotS D bt 0 p.nm s=D.op (D.tk bt s).1.1 (D.tk bt s).1.2 from by unfold gotS;rw[if_neg (by decide),if_neg hm,if_neg ht]]
    refine sk (nN (rg (p1 .fa (pp (PR.ls [q.y]) (p1 .lw (cl (fun _ _ h=>hK.cop (m:=(D.tk bt s).1.1) (x:=(D.tk bt s).1.2) h.m.below (hV.y.below h.m.below) htk.1 htk.2) (p5 .mv .ext .ext .as .as (en (rg (p3 .lw .mv .mv (sw 2 ?_)))))))))))
    exact p2 .as .as (en (rt (et [0,1,2,3,4,5,6,7,8,9])))
end
section
attribute [local irreducible] sumS manB rowS
structure KyRt (D:KyD):Prop where
 tk:∀ l,BxOk l->∀ b∈l,D.tk (D.mkp l) b.1=(b,0)
 op:∀ d:List UInt8,d.length<=32768->D.op (D.nm d) (D.bx d)=(d,0)
def kP (D:KyD)(bxs:List Bx):List UInt8:=(D.pnm (D.mkp bxs)).drop 5
def kqR (D:KyD)(bxs:List Bx):Nat:=((D.mkp bxs).length+2)/3
def kD1 (D:KyD):List UInt8:=rtObj D (nameR 1) (rowS (rtT 1 [] []))
abbrev kL1 (D:KyD)(dt:List UInt8):List Bx:=[(D.nm dt,D.bx dt)]
def kL2 (D:KyD)(dt:List UInt8):List Bx:=cmB D (kL1 D dt) (D.nm dt)
def kqM (D:KyD)(dt:List UInt8):List UInt8:=D.nm (manB 1 (D.nm dt))
def kD2 (D:KyD)(dt:List UInt8):List UInt8:=rtObj D (nameR 2) (rowS (rtT 2 [kqM D dt] (noV (pkF D (kL2 D dt)))))
def kZ1 (D:KyD)(_:Nat):Shf:=⟨[kO1 (kD1 D)],[]⟩
def kZ2 (D:KyD)(bxs:List Bx)(i:Nat):Shf:=⟨[kOp (kP D bxs) (pkD D bxs (kqR D bxs) i),kO1 (kD1 D)],[]⟩
def kZ3 (D:KyD)(dt:List UInt8)(i:Nat):Shf:=⟨[kOp (kP D (kL2 D dt)) (pkD D (kL2 D dt) (kqR D (kL2 D dt)) i),kO1 (kD1 D),kO2 (kD2 D dt)],[]⟩
def kZ4 (D:KyD)(dt:List UInt8)(i:Nat):Shf:=⟨[kOp (kP D (kL2 D dt)) (pkD D (kL2 D dt) (kqR D (kL2 D dt)) i),kO1 (kD1 D),kO3 (kD2 D dt)],[]⟩
theorem kP_eq {D:KyD}(h:KyOk D)(bxs:List Bx):D.pnm (D.mkp bxs)=pkN (kP D bxs)/\(kP D bxs).length=64/\ofOk (kP D bxs)=true:=by
 obtain⟨t,e,h1,h2⟩:=h.pnm (D.mkp bxs)
 have:kP D bxs=t:=by unfold kP;rw[e];rfl
 rw[this];exact⟨e,h1,h2⟩
theorem kR_eq (D:KyD)(bxs:List Bx):rowsP ((D.mkp bxs).length:Int)=(kqR D bxs:Int):=by
 unfold rowsP kqR
 rw[if_neg (by omega)];omega
theorem z2_eq {D:KyD}(h:KyOk D)(bxs:List Bx)(i:Nat):pZ (kZ1 D) (D.pnm (D.mkp bxs)) (pkD D bxs (kqR D bxs)) i=kZ2 D bxs i:=by
 show Shf.mk (putO [kO1 (kD1 D)] _ _) []=_
 rw[(kP_eq h bxs).1,putB1];rfl
theorem z3_eq (D:KyD)(dt:List UInt8)(i:Nat):pZ (kZ2 D (kL2 D dt)) (nameR 2) (fun _=>kD2 D dt) i=kZ3 D dt i:=by
 show Shf.mk (putO [_,_] _ _) []=_
 rw[putC];rfl
theorem z4_eq (D:KyD)(dt:List UInt8)(i:Nat):pZ (kZ3 D dt) (nameR 2) (fun _=>kD2 D dt) i=kZ4 D dt i:=by
 show Shf.mk (putO [_,_,_] _ _) []=_
 rw[putD];rfl
theorem flat1 (l:List (List UInt8)){a b:Nat}(h:l.flatten.length<=a)(hn:l.length<=b)(ha:a<2^30):(rowS l).length<=a+10*b:=by
 have:=rowS_len10 l (by omega)
 omega
theorem obj_len {D:KyD}(h:KyOk D){nm rd:List UInt8}(hn:nm.length=13)(hr:rd.length<=60000):(rtObj D nm rd).length<=65536:=by
 unfold rtObj
 have h1:=h.rb
 have h2:=h.sl (D.nn (sumS (nm++rd))) nm rd
 refine Nat.le_trans (flat1 _ (a:=60200) (b:=2) ?_ (by simp) (by decide)) (by decide)
 simp only[List.flatten_cons,List.flatten_nil,List.length_append,List.length_nil]
 omega
theorem d8 {n:Int}(h:0<=n/\n<=99999999):(Lib.itoa n).length<=8:=dec8 n h
theorem ref_flat {nm:List UInt8}(h:nm.length=64):(refT nm).flatten.length<=100:=by
 have h0:=d8 (n:=0) (by decide)
 have h1:=d8 (n:=1) (by decide)
 simp only[refT,List.flatten_cons,List.flatten_nil,List.length_append,List.length_nil,List.length_cons]
 omega
theorem ref_len {nm:List UInt8}(h:nm.length=64):(refB nm).length<=200:=Nat.le_trans (flat1 _ (ref_flat h) (b:=5) (Nat.le_refl 5) (by decide)) (by decide)
theorem pl_flat :∀ l:List PlS,(∀ x∈l,x.nm.length=64/\(0<=x.at_/\x.at_<=99999999)/\0<=x.len/\x.len<=99999999)->(l.flatMap fun x=>[x.nm,Lib.itoa x.at_,Lib.itoa x.len]).flatten.length<=80*l.length
 | [],_=>Nat.le_refl 0
 | x::r,h=>by
  have h1:=pl_flat r fun y hy=>h y (List.mem_cons_of_mem _ hy)
  obtain⟨a,b,c⟩:=h x (List.mem_cons_self ..)
  have h2:=d8 b
  have h3:=d8 c
  simp only[List.flatMap_cons,List.flatten_append,List.flatten_cons,List.flatten_nil,List.length_append,List.length_nil,List.length_cons] at h1 ⊢
  omega
theorem pl_all {D:KyD}(h:KyOk D){l:List Bx}(hb:BxOk l):∀ x∈D.pl l,PlOk x/\x.nm.length=64/\(0<=x.at_/\x.at_<=99999999)/\0<=x.len/\x.len<=99999999:=fun x hx=>by
 obtain⟨hl,hp⟩:=h.pl l hb
 obtain⟨i,hi,e⟩:=List.mem_iff_getElem.1 hx
 obtain⟨h1,h2,h3,h4⟩:=hp i (by omega)
 have e2:(D.pl l).getD i noPl=x:=by rw[List.getD_eq_getElem?_getD,List.getElem?_eq_getElem hi,←e];rfl
 rw[e2] at h1 h2 h3 h4
 refine⟨h2,?_,⟨h2.a.1,h3⟩,h2.b.1,h4⟩
 rw[h1]
 exact(hb.nm _ (getD_memX (by omega)).2).1
theorem pl_le {D:KyD}(h:KyOk D){l:List Bx}(hb:BxOk l):(D.pl l).length<=2:=by
 have:=(h.pl l hb).1
 have:=hb.n
 omega
theorem pk_flat {D:KyD}(h:KyOk D){l:List Bx}(hb:BxOk l):(pkT (pkF D l) (pkF D l).pl.length).flatten.length<=300:=by
 have h1:=pl_flat (D.pl l) fun x hx=>(pl_all h hb x hx).2
 have h2:=pl_le h hb
 have h3:=pnm_len h (D.mkp l)
 unfold pkT
 show((D.pnm (D.mkp l))::((D.pl l).take (D.pl l).length).flatMap _).flatten.length<=_
 rw[List.take_length,List.flatten_cons,List.length_append]
 omega
theorem pk_n {D:KyD}(h:KyOk D){l:List Bx}(hb:BxOk l):(pkT (pkF D l) (pkF D l).pl.length).length<=7:=by
 rw[pkT_n]
 have:=pl_le h hb
 show 1+3*(D.pl l).length<=7
 omega
theorem pk_len {D:KyD}(h:KyOk D){l:List Bx}(hb:BxOk l)(x:Value):(pkB (pkF D l,x)).length<=400:=Nat.le_trans (flat1 _ (pk_flat h hb) (pk_n h hb) (by decide)) (by decide)
theorem rt_flat {N:Int}{refs:List (List UInt8)}{packs:List (PkS×Value)}(hN:1<=N/\N<=2)(h1:(rowS (refs.map refB)).length<=500)(h2:(rowS (packs.map pkB)).length<=500):(rtT N refs packs).flatten.length<=1200:=by
 have a:=d8 (n:=N) (by omega)
 have b:=d8 (n:=0) (by decide)
 have c:=d8 (n:=3) (by decide)
 have d:=d8 (n:=2) (by decide)
 have e:=d8 (n:=1) (by decide)
 have f:(rowS []).length=0:=by rw[rowS_nil];rfl
 simp only[rtT,List.flatten_cons,List.flatten_nil,List.length_append,List.length_nil,List.length_cons]
 omega
theorem rt_mem {N:Int}{refs:List (List UInt8)}{packs:List (PkS×Value)}(h:(rtT N refs packs).flatten.length<=1200):∀ s∈rtT N refs packs,s.length<2^28:=fun s hs=>by
 have:=(List.sublist_flatten_of_mem hs).length_le
 omega
theorem mem_flat {l:List (List UInt8)}{n:Nat}(h:l.flatten.length<=n)(hn:n<2^28):∀ s∈l,s.length<2^28:=fun s hs=>by
 have:=(List.sublist_flatten_of_mem hs).length_le
 omega
theorem r1_len {nm:List UInt8}(h:nm.length=64):(rowS ([nm].map refB)).length<=500:=by
 refine Nat.le_trans (flat1 _ (a:=200) (b:=1) ?_ (Nat.le_refl 1) (by decide)) (by decide)
 have:=ref_len h
 simpa using this
theorem p1_len {D:KyD}(h:KyOk D){l:List Bx}(hb:BxOk l)(x:Value):(rowS ([(pkF D l,x)].map pkB)).length<=500:=by
 refine Nat.le_trans (flat1 _ (a:=400) (b:=1) ?_ (Nat.le_refl 1) (by decide)) (by decide)
 have:=pk_len h hb x
 simpa using this
theorem r0_len :(rowS (([]:List (List UInt8)).map refB)).length<=500:=by rw[List.map_nil,rowS_nil];decide
theorem p0_len :(rowS (([]:List (PkS×Value)).map pkB)).length<=500:=by rw[List.map_nil,rowS_nil];decide
theorem rt_len {N:Int}{refs:List (List UInt8)}{packs:List (PkS×Value)}(h:(rtT N refs packs).flatten.length<=1200):(rowS (rtT N refs packs)).length<=1300:=Nat.le_trans (flat1 _ h (b:=10) (Nat.le_refl 10) (by decide)) (by decide)
theorem kOk1 :RtOk 1 [] []:=⟨by decide,by decide,by decide,fun _ h=>(List.not_mem_nil h).elim,fun _ h=>(List.not_mem_nil h).elim⟩
theorem kB1 :RtB 1 [] []:=⟨by decide,by decide,fun _ h=>(List.not_mem_nil h).elim,by
 have:=rt_flat (N:=1) (by decide) r0_len p0_len
 show _+10*10<=_
 omega⟩
theorem kLen1 :(rowS (rtT 1 [] [])).length<=60000:=Nat.le_trans (rt_len (rt_flat (by decide) r0_len p0_len)) (by decide)
theorem kd1_len {D:KyD}(h:KyOk D):(kD1 D).length<=65536:=obj_len h nl1 kLen1
theorem kPut1 {D:KyD}(h:KyOk D)(i:Nat):PutOk (zE i) (nameR 1) (kD1 D):=⟨Nat.pos_of_ne_zero (by decide),rfl,askS0 rfl (by rw[nl1];decide),kd1_len h⟩
theorem kPut2 {D:KyD}(h:KyOk D){bxs:List Bx}(hb:BxOk bxs)(i:Nat)(hi:i<5):PutOk (kZ1 D i) (D.pnm (D.mkp bxs)) (pkD D bxs (kqR D bxs) i):=⟨by show 1<2^36;decide,rfl,askS0 (chkA (kd1_len h)) (by rw[pnm_len h];decide),by
 have hm:=h.mkp bxs hb
 have:=part_len (nm:=D.pnm (D.mkp bxs)) (by rw[pnm_len h];decide) (by omega) (kR_eq D bxs) hi
 show(partD _ _ _ _).length<=_
 omega⟩
theorem kP_len {D:KyD}(h:KyOk D){bxs:List Bx}(hb:BxOk bxs){i:Nat}(hi:i<5):(pkD D bxs (kqR D bxs) i).length<=65536:=(kPut2 h hb i hi).hd
theorem man_len {x:List UInt8}:(manB 1 x).length<=400:=by
 unfold manB
 refine Nat.le_trans (flat1 _ (a:=200) (b:=11) ?_ (Nat.le_refl 11) (by decide)) (by decide)
 have h0:=d8 (n:=0) (by decide)
 have h1:=d8 (n:=1) (by decide)
 have h2:=putS_len 0
 have h3:=ofD_len x
 simp only[manT,List.flatten_cons,List.flatten_nil,List.length_append,List.length_nil,List.length_cons,List.length_replicate]
 omega
theorem kBx1 {D:KyD}(h:KyOk D){dt:List UInt8}(hd:dt.length<=600):BxOk (kL1 D dt):=⟨⟨Nat.le_refl 1,by show 1<=2;decide⟩,fun b hb=>by rw[List.mem_singleton.1 hb];exact⟨h.nm dt,h.nmo dt⟩,by simp,by
 have:=h.bx dt
 simp only[List.map_cons,List.map_nil,List.sum_cons,List.sum_nil]
 omega⟩
theorem kWait (D:KyD)(dt:List UInt8):0<=waitX (kL1 D dt) (D.nm dt):=by
 unfold waitX
 rw[ixOf_yes (i:=0) (d:=([],[])) (by simp) (decide_eq_true rfl) fun j hj=>absurd hj (Nat.not_lt_zero j)]
 exact Int.le_refl 0
theorem kL2_cases (D:KyD)(dt:List UInt8):kL2 D dt=kL1 D dt\/(D.nm dt≠kqM D dt/\kL2 D dt=kL1 D dt ++ [(kqM D dt,D.bx (manB 1 (D.nm dt)))]):=by
 by_cases hw:0<=waitX (kL1 D dt) (kqM D dt)
 ·exact .inl (putB_yes hw)
 ·refine .inr ⟨fun e=>hw ?_,putB_no hw⟩
  rw[←e];exact kWait D dt
theorem kBx2 {D:KyD}(h:KyOk D){dt:List UInt8}(hd:dt.length<=600):BxOk (kL2 D dt):=by
 rcases kL2_cases D dt with e | ⟨hne,e⟩
 ·rw[e];exact kBx1 h hd
 ·rw[e]
  have h1:=h.bx dt
  have h2:=h.bx (manB 1 (D.nm dt))
  have h3:=man_len (x:=D.nm dt)
  refine⟨by simp,fun b hb=>?_,by simpa using hne,by simp;omega⟩
  simp only[List.cons_append,List.nil_append,List.mem_cons,List.not_mem_nil,or_false] at hb
  rcases hb with rfl | rfl
  ·exact⟨h.nm dt,h.nmo dt⟩
  ·exact⟨h.nm _,h.nmo _⟩
theorem kMem {D:KyD}{dt:List UInt8}:(D.nm dt,D.bx dt)∈kL2 D dt:=by
 rcases kL2_cases D dt with e | ⟨_,e⟩ <;> rw[e] <;> simp
theorem rtok2 {D:KyD}(h:KyOk D){l:List Bx}(hb:BxOk l){nm:List UInt8}(hn:nm.length=64)(ho:ofOk nm=true)(x:Value):RtOk 2 [nm] [(pkF D l,x)]:=⟨by decide,Nat.le_refl 1,Nat.le_refl 1,fun y hy=>by rw[List.mem_singleton.1 hy];exact⟨by omega,ho⟩,fun y hy=>by
 rw[List.mem_singleton.1 hy]
 obtain⟨e,h1,h2⟩:=kP_eq h l
 refine⟨⟨kP D l,e,by omega,h2⟩,?_,fun z hz=>(pl_all h hb z hz).1⟩
 have:=pl_le h hb
 show(D.pl l).length<2^36
 omega⟩
theorem rtb2 {D:KyD}(h:KyOk D){l:List Bx}(hb:BxOk l){nm:List UInt8}(hn:nm.length=64)(x:Value):RtB 2 [nm] [(pkF D l,x)]:=⟨by have:=ref_len hn;simp;omega,by have:=pk_len h hb x;simp at this ⊢;omega,fun y hy=>by
 rw[List.mem_singleton.1 hy]
 have h1:=pk_flat h hb
 have h2:=pk_n h hb
 show(pkT (pkF D l) (pkF D l).pl.length).flatten.length+10*(pkT (pkF D l) (pkF D l).pl.length).length<=_
 omega,by
 have:=rt_flat (N:=2) (by decide) (r1_len hn) (p1_len h hb x)
 show _+10*10<=_
 omega⟩
theorem kLen2 {D:KyD}(h:KyOk D){l:List Bx}(hb:BxOk l){nm:List UInt8}(hn:nm.length=64):(rowS (rtT 2 [nm] (noV (pkF D l)))).length<=60000:=Nat.le_trans (rt_len (rt_flat (by decide) (r1_len hn) (p1_len h hb _))) (by decide)
theorem kOf2 {D:KyD}(h:KyOk D){l:List Bx}(hb:BxOk l){nm:List UInt8}(hn:nm.length=64)(ho:ofOk nm=true):OfOk 2 nm (pkF D l):=⟨rtok2 h hb hn ho _,rt_mem (rt_flat (by decide) (r1_len hn) (p1_len h hb _)),by have:=kLen2 h hb hn;omega,fun s hs=>by rw[List.mem_singleton.1 hs];have:=ref_len hn;omega,mem_flat (ref_flat hn) (by decide),fun s hs=>by rw[List.mem_singleton.1 hs];have:=pk_len h hb .nilFunc;omega,mem_flat (pk_flat h hb) (by decide)⟩
theorem kd2_len {D:KyD}(h:KyOk D){dt:List UInt8}(hd:dt.length<=600):(kD2 D dt).length<=65536:=obj_len h nl2 (kLen2 h (kBx2 h hd) (h.nm _))
theorem kPut3 {D:KyD}(h:KyOk D){dt:List UInt8}(hd:dt.length<=600)(i:Nat)(hi:i<5):PutOk (kZ2 D (kL2 D dt) i) (nameR 2) (kD2 D dt):=⟨by show 2<2^36;decide,rfl,askS0 (chkB (kP_eq h _).2.1 (kP_len h (kBx2 h hd) hi) (kd1_len h)) (by rw[nl2];decide),kd2_len h hd⟩
theorem kChk3 {D:KyD}(h:KyOk D){dt:List UInt8}(hd:dt.length<=600){i:Nat}(hi:i<5):chkS (kZ3 D dt i).objs=0:=chkC (kP_eq h _).2.1 (kP_len h (kBx2 h hd) hi) (kd1_len h) (kd2_len h hd) (by decide) fun _=>rfl
theorem kChk4 {D:KyD}(h:KyOk D){dt:List UInt8}(hd:dt.length<=600){i:Nat}(hi:i<5):chkS (kZ4 D dt i).objs=0:=chkC (kP_eq h _).2.1 (kP_len h (kBx2 h hd) hi) (kd1_len h) (kd2_len h hd) (kd2_len h hd) fun h=>by cases h
theorem kPut4 {D:KyD}(h:KyOk D){dt:List UInt8}(hd:dt.length<=600)(i:Nat)(hi:i<5):PutOk (kZ3 D dt i) (nameR 2) (kD2 D dt):=⟨by show 3<2^36;decide,rfl,askS0 (kChk3 h hd hi) (by rw[nl2];decide),kd2_len h hd⟩
theorem kNm3 {D:KyD}(h:KyOk D){dt:List UInt8}(hd:dt.length<=600)(i:Nat)(hi:i<5):NmOk (kZ3 D dt i):=⟨by show 3<1000;decide,rfl,kChk3 h hd hi⟩
theorem kTold3 {D:KyD}(h:KyOk D){dt:List UInt8}(hd:dt.length<=600)(i:Nat)(hi:i<5):toldS (kZ3 D dt i) (nameR 2)=(kD2 D dt,0):=told_of (o:=kO2 (kD2 D dt)) (i:=2) (askS0 (kChk3 h hd hi) (by rw[nl2];decide)) (find3 ..) rfl rfl
theorem kTold4 {D:KyD}(h:KyOk D){dt:List UInt8}(hd:dt.length<=600)(i:Nat)(hi:i<5):toldS (kZ4 D dt i) (D.pnm (D.mkp (kL2 D dt)))=(pkD D (kL2 D dt) (kqR D (kL2 D dt)) i,0):=by
 have e:=(kP_eq h (kL2 D dt)).1
 exact told_of (o:=kOp (kP D (kL2 D dt)) (pkD D (kL2 D dt) (kqR D (kL2 D dt)) i)) (i:=0) (askS0 (kChk4 h hd hi) (by rw[pnm_len h];decide)) (by rw[e];exact find4 ..) rfl e.symm
theorem shb3 {o1 o2 o3:Ob}(h1:o1.da.length<=65536)(h2:o2.da.length<=65536)(h3:o3.da.length<=65536):ShB ⟨[o1,o2,o3],[]⟩:=⟨by show 3<2^36;decide,by show 0<2^36;decide,fun i=>by
 match i with
 | 0=>show o1.da.length<_;omega
 | 1=>show o2.da.length<_;omega
 | 2=>show o3.da.length<_;omega
 | i+3=>show 0<2^61;decide⟩
theorem kShB3 {D:KyD}(h:KyOk D){dt:List UInt8}(hd:dt.length<=600)(i:Nat)(hi:i<5):ShB (kZ3 D dt i):=shb3 (kP_len h (kBx2 h hd) hi) (kd1_len h) (kd2_len h hd)
theorem kShB4 {D:KyD}(h:KyOk D){dt:List UInt8}(hd:dt.length<=600)(i:Nat)(hi:i<5):ShB (kZ4 D dt i):=shb3 (kP_len h (kBx2 h hd) hi) (kd1_len h) (kd2_len h hd)
theorem kNms (D:KyD)(dt:List UInt8):nmA (kZ3 D dt) rootT = [nameR 1] ++ [nameR 2]:=nmA3 (t:=kP D (kL2 D dt)) (d1:=kD1 D) (d2:=kD2 D dt) (w:=[]) (b:=false) (p:=fun i=>pkD D (kL2 D dt) (kqR D (kL2 D dt)) i) fun _ _=>rfl
theorem kPlX {D:KyD}(h:KyOk D){l:List Bx}(hb:BxOk l){b:Bx}(hm:b∈l):0<=placeX (D.pl l) b.1:=by
 obtain⟨hl,hp⟩:=h.pl l hb
 obtain⟨i,hi,e⟩:=List.mem_iff_getElem.1 hm
 have h1:=(hp i hi).1
 have e2:(l.getD i ([],[]))=b:=by rw[List.getD_eq_getElem?_getD,List.getElem?_eq_getElem hi,←e];rfl
 unfold placeX ixOf
 cases hf:(D.pl l).findIdx? (fun y:PlS=>decide (y.nm=b.1)) with
 | some j=>exact Int.natCast_nonneg j
 | none=>
  have:=List.findIdx?_eq_none_iff.1 hf ((D.pl l).getD i noPl) (getD_memX (by omega)).2
  rw[h1,e2] at this
  simp at this
theorem kGot {D:KyD}(h:KyOk D)(hr:KyRt D){dt:List UInt8}(hd:dt.length<=600):gotS D (D.mkp (kL2 D dt)) 0 (D.pnm (D.mkp (kL2 D dt))) (D.nm dt)=(dt,0):=by
 unfold gotS
 have e:=hr.tk _ (kBx2 h hd) (D.nm dt,D.bx dt) kMem
 rw[if_neg (fun h=>h rfl),if_neg (fun h=>h rfl),e,if_neg (fun h=>h rfl)]
 exact hr.op dt (by omega)
end
theorem hxd_is :∀ n:Fin 16,isH (hxd n.val)=true/\hvl (hxd n.val)=n.val:=by decide
theorem hexS_bt (d:List UInt8):∀ i,i<d.length->bt (hexS d) (2*i)=hxd ((bt d i).toNat/16)/\bt (hexS d) (2*i+1)=hxd ((bt d i).toNat%16):=by
 induction d with
 | nil=>intro i hi;simp at hi
 | cons b d ih=>
  intro i hi
  have e:hexS (b::d)=hxd (b.toNat/16)::hxd (b.toNat%16)::hexS d:=by
   unfold hexS;rw[List.flatMap_cons];rfl
  rw[e]
  cases i with
  | zero=>exact⟨rfl,rfl⟩
  | succ i=>
   have:=ih i (by simpa using hi)
   have e1:2*(i+1)=2*i+2:=by omega
   rw[e1]
   exact this
theorem hex_ok (d:List UInt8)(hd:d.length=32):ofOk (hexS d)=true:=by
 rw[ofOk_iff]
 refine⟨by rw[hexS_len,hd],fun i hi=>?_⟩
 obtain⟨h1,h2⟩:=hexS_bt d (i/2) (by omega)
 have hb:=(bt d (i/2)).toNat_lt
 have k1:=(hxd_is ⟨(bt d (i/2)).toNat/16,by omega⟩).1
 have k2:=(hxd_is ⟨(bt d (i/2)).toNat%16,by omega⟩).1
 rcases Nat.mod_two_eq_zero_or_one i with h | h
 ·rw[show i=2*(i/2) by omega,h1];exact k1
 ·rw[show i=2*(i/2)+1 by omega,h2];exact k2
section
def lay :LT->Array Value->Array Value
 | [],t=>t
 | (s,v)::L,t=>(lay L t).setIfInBounds s v
theorem lay_size :∀ (L:LT) (t:Array Value),(lay L t).size=t.size
 | [],_=>rfl
 | (s,v)::L,t=>by rw[lay,Array.size_setIfInBounds,lay_size L t]
theorem lay_at :∀ {L:LT} {t:Array Value} {s:Nat} {v:Value},lz L s=some v->s<t.size->(lay L t)[s]?=some v
 | (x,u)::L,t,s,v,h,hs=>by
  rw[lz] at h
  rw[lay,Array.getElem?_setIfInBounds,lay_size]
  by_cases e:x=s
  ·subst e
   rw[Nat.beq_refl] at h
   rw[if_pos rfl,if_pos hs];exact h
  ·rw[show Nat.beq x s=false from Bool.eq_false_iff.2 fun h=>e (Nat.eq_of_beq_eq_true h)] at h
   rw[if_neg e];exact lay_at h hs
theorem lay_no :∀ {L:LT} {t:Array Value} {s:Nat},lz L s=none->(lay L t)[s]?=t[s]?
 | [],_,_,_=>rfl
 | (x,u)::L,t,s,h=>by
  rw[lz] at h
  rw[lay,Array.getElem?_setIfInBounds]
  by_cases e:x=s
  ·subst e
   rw[Nat.beq_refl] at h;cases h
  ·rw[show Nat.beq x s=false from Bool.eq_false_iff.2 fun h=>e (Nat.eq_of_beq_eq_true h)] at h
   rw[if_neg e];exact lay_no h
def isSel :Op->Bool
 | .select _ _=>true
 | _=>false
def opsB (l:List Oper)(n0 nt:Nat):Bool :=
 (List.range n0).all fun i=>match l[i]? with
  | some o=>!isSel o.op&&(o.looksAt l.toArray).all fun s=>decide (s<nt)&&(List.range n0).all fun j=>match l[j]? with
   | some oj=>oj.dst != some s||(decide (j<i)&&Region.waitsFor .any l.toArray i j)
   | none=>true
  | none=>true
section
variable {D:List Deferred}{nt:Nat}{w0:World}{L:LT}{M:MT}{R:List Rw}{l:List Oper}{K:LT->Prop}{v:Value}{o:Oper}{os:List Oper}
def OQ (D:List Deferred)(nt:Nat)(w0:World)(L:LT)(M:MT)(R:List Rw)(l:List Oper)(o:Oper)(v:Value):Prop:=∀ a W,St D nt w0 L M R a W->(Region.wanted o (yielded l.toArray a.tmps)=true/\GivesT Tryz.prog (Below W.heap.size W) (fun u _=>u=v) ((execOp a.eval o).run Tryz.prog W))\/(Region.wanted o (yielded l.toArray a.tmps)=false/\v=undef)
def DQ (D:List Deferred)(nt:Nat)(w0:World)(M:MT)(R:List Rw)(l:List Oper)(K:LT->Prop):List Oper->LT->Prop
 | [],L=>K L
 | o::os,L=>∃ v,OQ D nt w0 L M R l o v/\o.dst.isSome=true/\DQ D nt w0 M R l K os ((o.dst.getD 0,v)::L)
theorem DQ.get :∀ {os:List Oper} {L:LT},DQ D nt w0 M R l K os L->∃ us:List Value,os.length=us.length/\K (slT os us L) ∧ ∀ j o,os[j]?=some o->∃ u,us[j]?=some u/\o.dst.isSome=true/\OQ D nt w0 (slT (os.take j) (us.take j) L) M R l o u
 | [],L,h=>⟨[],rfl,h,fun j o h=>by simp at h⟩
 | o::os,L,⟨v,h1,h2,h3⟩=>by
  obtain⟨us,e1,e2,e3⟩:=DQ.get h3
  refine⟨v::us,by simp[e1],e2,fun j o2 hj=>?_⟩
  cases j with
  | zero=>injection hj with hj;subst hj;exact⟨v,rfl,h2,h1⟩
  | succ j=>
   obtain⟨u,q1,q2,q3⟩:=e3 j o2 (by simpa using hj)
   exact⟨u,by simpa using q1,q2,q3⟩
theorem wanted_same {l:List Oper}{a a2:Act}(h:∀ s∈o.looksAt l.toArray,a.tmps[s]?=a2.tmps[s]?):Region.wanted o (yielded l.toArray a.tmps)=Region.wanted o (yielded l.toArray a2.tmps):=by
 unfold Region.wanted
 cases hg:o.guard with
 | none=>rfl
 | some p=>
  obtain⟨j,want⟩:=p
  simp only
  congr 1
  unfold yielded
  cases hd:((l.toArray)[j]?).bind (·.dst) with
  | none=>rfl
  | some s=>
   have:=h s (by unfold Oper.looksAt;rw[hg];exact List.mem_append_right _ (by show s∈((l.toArray[j]?).bind (·.dst)).toList;rw[hd];simp))
   simp only[Option.bind_some,this]
theorem exec_same {l:List Oper}{a a2:Act}(hs:isSel o.op=false)(h:∀ s∈o.looksAt l.toArray,a.tmps[s]?=a2.tmps[s]?):execOp a.eval o=execOp a2.eval o :=
 execOp_congr o (fun cs b e=>by rw[e] at hs;cases hs) fun x hx=>by
  cases x with
  | tmp s=>
   have:=h s (List.mem_append_left _ (List.mem_filterMap.2 ⟨.tmp s,by simpa using hx,rfl⟩))
   show a.tmps.getD s undef=a2.tmps.getD s undef
   rw[Array.getD_eq_getD_getElem?,Array.getD_eq_getD_getElem?,this]
  | _=>rfl
theorem slT_has :∀ {os:List Oper} {us:List Value} {L:LT} {s:Nat},(lz L s).isSome=true->(lz (slT os us L) s).isSome=true
 | [],[],_,_,h=>h
 | [],_::_,_,_,h=>h
 | _::_,[],_,_,h=>h
 | o::os,u::us,L,s,h=>slT_has (os:=os) (us:=us) (lz_cons h)
theorem slT_dst :∀ {os:List Oper} {us:List Value} {L:LT} {j s:Nat} {o:Oper},os[j]?=some o->o.dst=some s->j<us.length->(lz (slT os us L) s).isSome=true
 | [],_,_,j,_,_,h,_,_=>by simp at h
 | _::_,[],_,_,_,_,_,_,h=>by simp at h
 | o::os,u::us,L,0,s,o2,h,hd,_=>by
  injection h with h
  subst h
  exact slT_has (os:=os) (us:=us) (L:=(o.dst.getD 0,u)::L) (by rw[hd];exact lz_self L s u)
 | o::os,u::us,L,j+1,s,o2,h,hd,hj=>slT_dst (os:=os) (us:=us) (j:=j) (by simpa using h) hd (by simpa using hj)
theorem head_ok {n0 i:Nat}{us:List Value}{a0 a:Act}{w W:World}(hs:St D nt w0 L M R a0 w)(hB:looseB l nt=true)(hO:opsB l n0 nt=true)(hall:((l.take n0).all fun o=>o.dst.isSome)=true)(hl:(l.take n0).length=us.length)(ho:l[i]?=some o)(hi:i<n0)(hS:Below w.heap.size w W)(h1:∀ s v,noDst (l.take n0) s=true->a0.tmps[s]?=some v->a.tmps[s]?=some v)(h2:∀ j,Region.waitsFor .any l.toArray i j=true->∀ oj s,l[j]?=some oj->oj.dst=some s->∃ v,a.tmps[s]?=some v ∧ ∀ u,j<n0->us[j]?=some u->v=u):∃ a2:Act,St D nt w0 (slT ((l.take n0).take i) (us.take i) L) M R a2 W/\(∀ s∈o.looksAt l.toArray,a.tmps[s]?=a2.tmps[s]?)/\isSel o.op=false:=by
 have hc:=List.all_eq_true.1 hO i (List.mem_range.2 hi)
 simp only[ho,Bool.and_eq_true,Bool.not_eq_true'] at hc
 obtain⟨hsel,hc⟩:=hc
 have hall2:(((l.take n0).take i).all fun o=>o.dst.isSome)=true:=List.all_eq_true.2 fun x hx=>List.all_eq_true.1 hall x (List.mem_of_mem_take hx)
 have hl2:((l.take n0).take i).length=(us.take i).length:=by rw[List.length_take,hl,List.length_take]
 have hat:∀ (j:Nat) (oj:Oper),((l.take n0).take i)[j]?=some oj->j<i/\l[j]?=some oj:=fun j oj q1=>by
  have hj:j<i:=by have:=(List.getElem?_eq_some_iff.1 q1).1;rw[List.length_take] at this;omega
  rw[List.getElem?_take_of_lt hj,List.getElem?_take_of_lt (by omega)] at q1
  exact⟨hj,q1⟩
 have hin:∀ s v,lz (slT ((l.take n0).take i) (us.take i) L) s=some v->(∃ (j:Nat) (oj:Oper),j<i/\l[j]?=some oj/\oj.dst=some s/\us[j]?=some v)\/(noDst ((l.take n0).take i) s=true/\lz L s=some v):=fun s v h=>by
  rcases lz_slT hall2 hl2 h with⟨j,oj,q1,q2,q3⟩ | q
  ·obtain⟨hj,q1⟩:=hat j oj q1
   rw[List.getElem?_take_of_lt hj] at q3
   exact .inl ⟨j,oj,hj,q1,q2,q3⟩
  ·exact .inr q
 have hsz:=hs.f.size
 have hL:∀ s v,lz L s=some v->a0.tmps[s]?=some v:=fun s v q=>hs.f.has s v (by rw[←lz_eq];exact q)
 have hlt:∀ s v,lz (slT ((l.take n0).take i) (us.take i) L) s=some v->s<a0.tmps.size:=fun s v h=>by
  rcases hin s v h with⟨j,oj,q0,q1,q2,_⟩ | ⟨_,q⟩
  ·rw[hsz];exact looseB_lt hB q1 q2
  ·exact(Array.getElem?_eq_some_iff.1 (hL s v q)).1
 refine⟨{ a0 with tmps:=lay (slT ((l.take n0).take i) (us.take i) L) a0.tmps },⟨⟨by show(lay _ _).size=nt;rw[lay_size];exact hsz,hs.f.defers,fun s v h=>?_⟩,hs.m.grow hS,fun x hx=>(hs.r x hx).grow hS,hs.nd⟩,fun s hsl=>?_,hsel⟩
 ·rw[←lz_eq] at h
  exact lay_at h (hlt s v h)
 ·have hq:=List.all_eq_true.1 hc s hsl
  rw[Bool.and_eq_true,decide_eq_true_eq] at hq
  obtain⟨hn,hq⟩:=hq
  have hn2:s<a0.tmps.size:=by rw[hsz];exact hn
  have hw:∀ (j:Nat) (oj:Oper),j<n0->l[j]?=some oj->oj.dst=some s->j<i/\Region.waitsFor .any l.toArray i j=true:=fun j oj hj q1 q2=>by
   have:=List.all_eq_true.1 hq j (List.mem_range.2 hj)
   simp only[q1,q2,bne_self_eq_false,Bool.false_or,Bool.and_eq_true,decide_eq_true_eq] at this
   exact this
  have hnd:(∀ (j:Nat) (oj:Oper),j<i->l[j]?=some oj->oj.dst≠some s)->noDst (l.take n0) s=true:=fun h=>by
   unfold noDst
   refine List.all_eq_true.2 fun oj hoj=>?_
   obtain⟨j,hj⟩:=List.mem_iff_getElem?.1 hoj
   have hj2:j<n0:=by have:=(List.getElem?_eq_some_iff.1 hj).1;rw[List.length_take] at this;omega
   rw[List.getElem?_take_of_lt hj2] at hj
   have:oj.dst≠some s:=fun e=>h j oj (hw j oj hj2 hj e).1 hj e
   simpa using this
  show a.tmps[s]?=(lay _ a0.tmps)[s]?
  cases hz:lz (slT ((l.take n0).take i) (us.take i) L) s with
  | none=>
   rw[lay_no hz]
   have hx:a0.tmps[s]?=some (a0.tmps[s]'hn2):=Array.getElem?_eq_getElem hn2
   rw[hx]
   refine h1 s _ (hnd fun j oj hj q1 q2=>?_) hx
   have:(lz (slT ((l.take n0).take i) (us.take i) L) s).isSome=true:=slT_dst (os:=(l.take n0).take i) (us:=us.take i) (L:=L) (j:=j) (o:=oj) (by rw[List.getElem?_take_of_lt hj,List.getElem?_take_of_lt (by omega)];exact q1) q2 (by
    have:=(List.getElem?_eq_some_iff.1 ho).1
    rw[List.length_take,←hl,List.length_take];omega)
   rw[hz] at this;cases this
  | some v=>
   rw[lay_at hz (hlt s v hz)]
   rcases hin s v hz with⟨j,oj,q0,q1,q2,q3⟩ | ⟨q,q2⟩
   ·obtain⟨v2,e1,e2⟩:=h2 j (hw j oj (by omega) q1 q2).2 oj s q1 q2
    rw[e1,e2 v (by omega) q3]
   ·refine h1 s v (hnd fun j oj hj q3 q4=>?_) (hL s v q2)
    have:=List.all_eq_true.1 q oj (List.mem_of_getElem? (i:=j) (by rw[List.getElem?_take_of_lt hj,List.getElem?_take_of_lt (by omega)];exact q3))
    rw[q4] at this;simp at this
theorem DQ.all {n0:Nat}{us:List Value}(hg:∀ j o,(l.take n0)[j]?=some o->∃ u,us[j]?=some u/\o.dst.isSome=true/\OQ D nt w0 (slT ((l.take n0).take j) (us.take j) L) M R l o u):((l.take n0).all fun o=>o.dst.isSome)=true:=List.all_eq_true.2 fun o ho=>by
 obtain⟨j,hj⟩:=List.mem_iff_getElem?.1 ho
 obtain⟨_,_,h,_⟩:=hg j o hj
 exact h
theorem DQ.ask {n0 i:Nat}{us:List Value}{a0 a:Act}{w W:World}(hs:St D nt w0 L M R a0 w)(hB:looseB l nt=true)(hO:opsB l n0 nt=true)(hg:∀ j o,(l.take n0)[j]?=some o->∃ u,us[j]?=some u/\o.dst.isSome=true/\OQ D nt w0 (slT ((l.take n0).take j) (us.take j) L) M R l o u)(hl:(l.take n0).length=us.length)(ho:l[i]?=some o)(hi:i<n0)(hS:Below w.heap.size w W)(h1:∀ s v,noDst (l.take n0) s=true->a0.tmps[s]?=some v->a.tmps[s]?=some v)(h2:∀ j,Region.waitsFor .any l.toArray i j=true->∀ oj s,l[j]?=some oj->oj.dst=some s->∃ v,a.tmps[s]?=some v ∧ ∀ u,j<n0->us[j]?=some u->v=u):(Region.wanted o (yielded l.toArray a.tmps)=true/\GivesT Tryz.prog (Below W.heap.size W) (fun v _=>∀ u,i<n0->us[i]?=some u->v=u) ((execOp a.eval o).run Tryz.prog W))\/(Region.wanted o (yielded l.toArray a.tmps)=false ∧ ∀ u,i<n0->us[i]?=some u->undef=u):=by
 obtain⟨a2,q1,q2,q3⟩:=head_ok hs hB hO (DQ.all hg) hl ho hi hS h1 h2
 obtain⟨u,e1,e2,e3⟩:=hg i o (by rw[List.getElem?_take_of_lt hi];exact ho)
 rw[wanted_same q2,exec_same q3 q2]
 rcases e3 a2 W q1 with⟨g1,g2⟩ | ⟨g1,g2⟩
 ·refine .inl ⟨g1,?_⟩
  have hu:∀ v,v=u->∀ u2,i<n0->us[i]?=some u2->v=u2:=fun v hv u2 _ h=>by rw[e1] at h;rw[hv];exact Option.some.inj h
  revert g2
  cases (execOp a2.eval o).run Tryz.prog W with
  | ok x w'=>
   cases x with
   | value v=>exact fun h=>⟨h.1,hu v h.2⟩
   | skip=>exact fun h=>⟨h.1,hu _ h.2⟩
   | enter f args=>exact fun h=>h.mono fun e w'' ⟨v,b1,b2,b3⟩=>⟨v,b1,b2,hu v b3⟩
   | _=>exact fun h=>h
  | _=>exact fun h=>h
 ·refine .inr ⟨g1,fun u2 _ h=>?_⟩
  rw[e1] at h
  rw[←g2];exact Option.some.inj h
theorem DQ.st {n0:Nat}{us:List Value}{a0 a:Act}{w W:World}(hs:St D nt w0 L M R a0 w)(hall:((l.take n0).all fun o=>o.dst.isSome)=true)(hl:(l.take n0).length=us.length)(hS:Below w.heap.size w W)(hK:Known l a0 (fun i v _=>∀ u,i<n0->us[i]?=some u->v=u) (fun i=>decide (i<n0)) a W):St D nt w0 (slT (l.take n0) us L) M R a W:=by
 refine⟨⟨by rw[hK.size];exact hs.f.size,by rw[hK.defers];exact hs.f.defers,fun s v h=>?_⟩,hs.m.grow hS,fun x hx=>(hs.r x hx).grow hS,hs.nd⟩
 rw[←lz_eq] at h
 rcases lz_slT hall hl h with⟨j,o,h1,h2,h3⟩ | ⟨h1,h2⟩
 ·have hj:j<n0:=by have:=(List.getElem?_eq_some_iff.1 h1).1;rw[List.length_take] at this;omega
  rw[List.getElem?_take_of_lt hj] at h1
  obtain⟨v2,h4,h5⟩:=hK.new j o s h1 (by simpa using hj) h2
  rw[h4,h5 v hj h3]
 ·rw[hK.old s fun i o ho hi=>?_]
  ·exact hs.f.has s v (by rw[←lz_eq];exact h2)
  ·have:=List.all_eq_true.1 h1 o (List.mem_of_getElem? (i:=i) (by rw[List.getElem?_take_of_lt (by simpa using hi)];exact ho))
   simpa using this
theorem dq {id:Nat}{Q:Exit->Act->World->Prop}(n0:Nat)(h:DQ D nt w0 M R l (fun L2=>KX D nt w0 L2 M R (wpList Tryz.prog l.toArray Q (l.drop n0))) (l.take n0) L)(hO:opsB l n0 nt=true:=by kernel_rfl)(hB:looseB l nt=true:=by kernel_rfl)(hTB:tailB l n0=true:=by kernel_rfl):KX D nt w0 L M R ((Code.region id l.toArray true).wp Tryz.prog Q):=fun a0 w hs=>by
 obtain⟨us,hl,hk,hg⟩:=h.get
 refine wp_region_looseTail2 nt n0 (by kernel_rfl) hB hTB hs.f.size (Below w.heap.size w) (fun i v _=>∀ u,i<n0->us[i]?=some u->v=u) grows (Below.refl _ _).drew (fun _ W W' h1 h2=>h1.trans (h2.mono h1.size)) (fun _ j v W W' _ _ _ hT=>hT) (fun i o ho hn v W hT u hi hu=>?_) (fun i o hi ho a W hS h1 h2 _=>DQ.ask hs hB hO hg hl ho hi hS h1 h2) (fun a W hS hK=>hk a W (DQ.st hs (DQ.all hg) hl hS hK))
 obtain⟨_,_,h,_⟩:=hg i o (by rw[List.getElem?_take_of_lt hi];exact ho)
 rw[hn] at h;cases h
theorem dqs {id:Nat}{Q:Exit->Act->World->Prop}{cc:Code}(n0:Nat)(h:DQ D nt w0 M R l (fun L2=>KX D nt w0 L2 M R (wpList Tryz.prog l.toArray (Exit.then (cc.wp Tryz.prog Q) Q) (l.drop n0))) (l.take n0) L)(hO:opsB l n0 nt=true:=by kernel_rfl)(hB:looseB l nt=true:=by kernel_rfl)(hTB:tailB l n0=true:=by kernel_rfl):KX D nt w0 L M R ((Code.seq (Code.region id l.toArray true) cc).wp Tryz.prog Q):=fun a w hs=>wp_seq (dq n0 h hO hB hTB a w hs)
theorem dqa {id:Nat}{Q:Exit->Act->World->Prop}(h:DQ D nt w0 M R l (fun L2=>KX D nt w0 L2 M R (Q .normal)) l L)(hO:opsB l l.length nt=true:=by kernel_rfl)(hB:looseB l nt=true:=by kernel_rfl):KX D nt w0 L M R ((Code.region id l.toArray true).wp Tryz.prog Q):=fun a0 w hs=>by
 rw[show DQ D nt w0 M R l (fun L2=>KX D nt w0 L2 M R (Q .normal)) l L=DQ D nt w0 M R l (fun L2=>KX D nt w0 L2 M R (Q .normal)) (l.take l.length) L by rw[List.take_length]] at h
 obtain⟨us,hl,hk,hg⟩:=h.get
 have hlt:∀ {i:Nat} {o:Oper},l[i]?=some o->i<l.length:=fun h=>(List.getElem?_eq_some_iff.1 h).1
 refine wp_region_loose nt (by kernel_rfl) hB hs.f.size (Below w.heap.size w) (fun i v _=>∀ u,i<l.length->us[i]?=some u->v=u) grows (Below.refl _ _).drew (fun _ W W' h1 h2=>h1.trans (h2.mono h1.size)) (fun _ j v W W' _ _ _ hT=>hT) (fun i o ho hn v W hT u hi hu=>?_) (fun i o ho a W hS h1 h2 _=>DQ.ask hs hB hO hg hl ho (hlt ho) hS (by rw[List.take_length];exact h1) h2) (fun a W hS hK=>hk a W (DQ.st hs (DQ.all hg) hl hS ⟨hK.size,hK.defers,fun s h=>hK.old s fun i o ho _=>h i o ho (decide_eq_true (hlt ho)),fun i o s ho _ hd=>hK.new i o s ho rfl hd,fun i o ho _ hd=>hK.mem i o ho rfl hd⟩))
 obtain⟨_,_,h,_⟩:=hg i o (by rw[List.getElem?_take_of_lt hi];exact ho)
 rw[hn] at h;cases h
theorem dqb {id:Nat}{Q:Exit->Act->World->Prop}{cc:Code}(h:DQ D nt w0 M R l (fun L2=>KX D nt w0 L2 M R (cc.wp Tryz.prog Q)) l L)(hO:opsB l l.length nt=true:=by kernel_rfl)(hB:looseB l nt=true:=by kernel_rfl):KX D nt w0 L M R ((Code.seq (Code.region id l.toArray true) cc).wp Tryz.prog Q):=fun a w hs=>wp_seq (dqa (Q:=Exit.then (cc.wp Tryz.prog Q) Q) h hO hB a w hs)
theorem YE {X:LT->Prop}(h:X L):DQ D nt w0 M R l X [] L:=h
end
section
variable {D:List Deferred}{nt:Nat}{w0:World}{L:LT}{M:MT}{R:List Rw}{l:List Oper}{K:LT->Prop}{os:List Oper}{x:Operand}{v v1 v2 v3 v4 v5:Value}{op op1 op2 op3 op4 op5:Op}{ty ty1 ty2 ty3 ty4 ty5:TypeId}{ps ps1 ps2 ps3 ps4 ps5:String}{af af1 af2 af3 af4 af5:Array Edge}{d d1 d2 d3 d4 d5:Nat}
theorem Y1 (hp:PR Tryz.prog (St D nt w0 L M R) op v:=by exact pr)(k:DQ D nt w0 M R l K os ((d,v)::L)):DQ D nt w0 M R l K (⟨some d,op,ty,ps,af,none⟩::os) L :=
 ⟨v,fun a W hs=>.inl ⟨wanted_yes rfl,by rw[hp a W _ rfl hs];exact⟨Below.refl _ _,rfl⟩⟩,rfl,k⟩
theorem YQ (hp:PR Tryz.prog (St D nt w0 L M R) op v)(k:DQ D nt w0 M R l K os ((d,v)::L)):DQ D nt w0 M R l K (⟨some d,op,ty,ps,af,none⟩::os) L:=Y1 hp k
theorem Y2 (h1:PR Tryz.prog (St D nt w0 L M R) op1 v1)(h2:PR Tryz.prog (St D nt w0 ((d1,v1)::L) M R) op2 v2)(k:DQ D nt w0 M R l K os ((d2,v2)::(d1,v1)::L)):DQ D nt w0 M R l K (⟨some d1,op1,ty1,ps1,af1,none⟩::⟨some d2,op2,ty2,ps2,af2,none⟩::os) L:=Y1 h1 (Y1 h2 k)
theorem Y3 (h1:PR Tryz.prog (St D nt w0 L M R) op1 v1)(h2:PR Tryz.prog (St D nt w0 ((d1,v1)::L) M R) op2 v2)(h3:PR Tryz.prog (St D nt w0 ((d2,v2)::(d1,v1)::L) M R) op3 v3)(k:DQ D nt w0 M R l K os ((d3,v3)::(d2,v2)::(d1,v1)::L)):DQ D nt w0 M R l K (⟨some d1,op1,ty1,ps1,af1,none⟩::⟨some d2,op2,ty2,ps2,af2,none⟩::⟨some d3,op3,ty3,ps3,af3,none⟩::os) L:=Y1 h1 (Y1 h2 (Y1 h3 k))
theorem Y4 (h1:PR Tryz.prog (St D nt w0 L M R) op1 v1)(h2:PR Tryz.prog (St D nt w0 ((d1,v1)::L) M R) op2 v2)(h3:PR Tryz.prog (St D nt w0 ((d2,v2)::(d1,v1)::L) M R) op3 v3)(h4:PR Tryz.prog (St D nt w0 ((d3,v3)::(d2,v2)::(d1,v1)::L) M R) op4 v4)(k:DQ D nt w0 M R l K os ((d4,v4)::(d3,v3)::(d2,v2)::(d1,v1)::L)):DQ D nt w0 M R l K (⟨some d1,op1,ty1,ps1,af1,none⟩::⟨some d2,op2,ty2,ps2,af2,none⟩::⟨some d3,op3,ty3,ps3,af3,none⟩::⟨some d4,op4,ty4,ps4,af4,none⟩::os) L:=Y1 h1 (Y1 h2 (Y1 h3 (Y1 h4 k)))
theorem Y5 (h1:PR Tryz.prog (St D nt w0 L M R) op1 v1)(h2:PR Tryz.prog (St D nt w0 ((d1,v1)::L) M R) op2 v2)(h3:PR Tryz.prog (St D nt w0 ((d2,v2)::(d1,v1)::L) M R) op3 v3)(h4:PR Tryz.prog (St D nt w0 ((d3,v3)::(d2,v2)::(d1,v1)::L) M R) op4 v4)(h5:PR Tryz.prog (St D nt w0 ((d4,v4)::(d3,v3)::(d2,v2)::(d1,v1)::L) M R) op5 v5)(k:DQ D nt w0 M R l K os ((d5,v5)::(d4,v4)::(d3,v3)::(d2,v2)::(d1,v1)::L)):DQ D nt w0 M R l K (⟨some d1,op1,ty1,ps1,af1,none⟩::⟨some d2,op2,ty2,ps2,af2,none⟩::⟨some d3,op3,ty3,ps3,af3,none⟩::⟨some d4,op4,ty4,ps4,af4,none⟩::⟨some d5,op5,ty5,ps5,af5,none⟩::os) L:=Y1 h1 (Y1 h2 (Y1 h3 (Y1 h4 (Y1 h5 k))))
theorem YC {f:FuncId}{xs:List Operand}{vs:List Value}{ts:Array TypeId}(hc:∀ a w,St D nt w0 L M R a w->Calls Tryz.prog f vs.toArray w fun e w'=>e = .returned v/\Below w.heap.size w w')(k:DQ D nt w0 M R l K os ((d,v)::L))(hx:EVs (St D nt w0 L M R) xs vs:=by exact evs)(hg:(match Tryz.prog.funcs[f]? with | some fn=>!(fn.name == "runtime.NumGoroutine")&&fn.body.isSome | none=>false)=true:=by kernel_rfl):DQ D nt w0 M R l K (⟨some d,.call { callee:=.value (.func f),args:=xs.toArray,argTypes:=ts },ty,ps,af,none⟩::os) L :=
 ⟨v,fun a W hs=>.inl ⟨wanted_yes rfl,by
  rw[run_callK (o:=⟨some d,.call { callee:=.value (.func f),args:=xs.toArray,argTypes:=ts },ty,ps,af,none⟩) rfl hg (hx.arr hs)]
  exact(hc a W hs).mono fun e w' h=>⟨v,h.1,h.2,rfl⟩⟩,rfl,k⟩
end
end
section
section
variable {D:List Deferred}{nt:Nat}{w0:World}{L:LT}{M:MT}{R:List Rw}{G:Kn}{x y:Operand}{v:Value}{ops:Array Oper}{rest:List Oper}{Q:Exit->Act->World->Prop}{t t2 ty tyo e:TypeId}{ps:String}{af:Array Edge}{k k2:IntKind}{p q:Int}{n g o d:Nat}{l:List Wd}{a b c:Wd}
theorem PR.ia1 (i:Nat)(hx:EV G x (px g o):=by exact ev)(hy:EV G y (.int k p):=by exact ev)(hp:p=(i:Int):=by rfl)(hu:und t=some (.array n e):=by rfl)(hz:szT e=some 1:=by rfl)(hi:i<n:=by omega):PR Tryz.prog G (.indexAddr t x y) (px g (o+i)):=(PR.ia i hx hy hp hu hz hi).to (by rw[Nat.mul_one])
theorem PR.ia0 (i:Nat)(hx:EV G x (pt g):=by exact ev)(hy:EV G y (.int k p):=by exact ev)(hp:p=(i:Int):=by rfl)(hu:und t=some (.array n e):=by rfl)(hz:szT e=some 1:=by rfl)(hi:i<n:=by omega):PR Tryz.prog G (.indexAddr t x y) (px g i):=(PR.ia1 i hx hy hp hu hz hi).to (by rw[Nat.zero_add])
theorem PR.lwd (hx:EV G x (px g o):=by exact ev)(hm:MB G g t (cells l):=by exact mb)(ha:agT ty=some false:=by rfl)(hi:o<l.length:=by omega):PR Tryz.prog G (.load ty x) (.int .u32 (nm (gt l o))):=PR.lc (cells_get l o hi) hx hm ha
theorem PR.lby {l:List UInt8}(hx:EV G x (px g o):=by exact ev)(hm:MB G g t (cells8 l):=by exact mb)(ha:agT ty=some false:=by rfl)(hi:o<l.length:=by omega):PR Tryz.prog G (.load ty x) (.int .u8 ((bt l o).toNat:Int)):=PR.lc (cells8_get l o hi) hx hm ha
theorem splW {i:Nat}(h:i<l.length):spl (cells l) i [.int .u32 (nm c)]=cells (l.set i c):=by
 unfold spl cells
 apply Array.ext'
 show(l.map cw).take i ++ [cw c]++(l.map cw).drop (i+1)=(l.set i c).map cw
 rw[List.map_set,List.set_eq_take_append_cons_drop,if_pos (by simpa using h)]
 simp
theorem swd (i:Nat)(h:KX D nt w0 L (M.set i (g,isB t (cells (l.set o c)))) R (wpList Tryz.prog ops Q rest))(e:M[i]?=some (g,isB t (cells l)):=by rfl)(hx:EV (St D nt w0 L M R) x (px g o):=by exact ev)(hy:EV (St D nt w0 L M R) y (.int .u32 (nm c)):=by exact ev)(hs:szT ty=some 1:=by rfl)(ho:o<l.length:=by omega):KX D nt w0 L M R (wpList Tryz.prog ops Q (⟨none,.store ty x y,tyo,ps,af,none⟩::rest)) :=
 s1 i h e hx hy hs rfl (by rw[cells_size];omega) (splW ho)
theorem PR.addW (hx:EV G x (.int .u32 (nm a)):=by exact ev)(hy:EV G y (.int .u32 (nm b)):=by exact ev):PR Tryz.prog G (.binOp .add t x y t2) (.int .u32 (nm (a+b))):=PR.add hx hy (nm_add a b)
theorem PR.xorW (hx:EV G x (.int .u32 (nm a)):=by exact ev)(hy:EV G y (.int .u32 (nm b)):=by exact ev):PR Tryz.prog G (.binOp .xor t x y t2) (.int .u32 (nm (a^^^b))):=fun a w _ ho hg=>run_xor ho (hx a w hg) (hy a w hg) (nm_xor _ _)
theorem PR.xor (r:Int)(hx:EV G x (.int k p):=by exact ev)(hy:EV G y (.int k q):=by exact ev)(h:bits .xor k p q=r):PR Tryz.prog G (.binOp .xor t x y t2) (.int k r):=fun a w _ ho hg=>run_xor ho (hx a w hg) (hy a w hg) h
theorem sby (i:Nat){l:List UInt8}{c:UInt8}(h:KX D nt w0 L (M.set i (g,isB t (cells8 (l.set o c)))) R (wpList Tryz.prog ops Q rest))(e:M[i]?=some (g,isB t (cells8 l)):=by rfl)(hx:EV (St D nt w0 L M R) x (px g o):=by exact ev)(hy:EV (St D nt w0 L M R) y (.int .u8 (c.toNat:Int)):=by exact ev)(hs:szT ty=some 1:=by rfl)(ho:o<l.length:=by omega):KX D nt w0 L M R (wpList Tryz.prog ops Q (⟨none,.store ty x y,tyo,ps,af,none⟩::rest)) :=
 s1 i h e hx hy hs rfl (by rw[cells8_size];omega) (spl8 ho)
theorem gW (i:Nat){X:Act->World->Prop}(h:∀ l2,l2=l->KX D nt w0 L (M.set i (g,isB t (cells l2))) R X)(e:M[i]?=some (g,isB t (cells l)):=by rfl):KX D nt w0 L M R X:=kM i (cells l) (h l rfl) e
theorem gB (i:Nat){X:Act->World->Prop}{l:List UInt8}(h:∀ l2,l2=l->KX D nt w0 L (M.set i (g,isB t (cells8 l2))) R X)(e:M[i]?=some (g,isB t (cells8 l)):=by rfl):KX D nt w0 L M R X:=kM i (cells8 l) (h l rfl) e
def Tab (w:World)(g:Nat)(cs:Array Value):Prop:=∃ t fr,w.heap[g]?=some (.cells cs t fr)
theorem Tab.below {w w2:World}{cs:Array Value}(h:Tab w g cs)(hb:Below w.heap.size w w2):Tab w2 g cs:=by
 obtain⟨t,fr,e⟩:=h
 exact⟨t,fr,by rw[hb.block g (lt_of_ob e)];exact e⟩
theorem PR.lg {cs:Array Value}(h:∀ a w,G a w->Tab w g cs)(hx:EV G x (pt g):=by exact ev)(ha:agT ty=some true:=by rfl)(hz:szT ty=some n:=by rfl)(hn:cs.size=n:=by rfl):PR Tryz.prog G (.load ty x) (.agg cs):=fun a w _ ho hg=>by
 obtain⟨t,fr,e⟩:=h a w hg
 have h:=run_ldS (P:=Tryz.prog) (w:=w) (cs:=cs.toList) ho (hx a w hg) (agT_ok ha w) (by rw[Array.length_toList,hn];exact szT_ok hz w) (fun j u hj=>by rw[Nat.zero_add,cell_of_row w g j cs t fr e];simpa using hj)
 rwa[Array.toArray_toList] at h
end
end

theorem rotz_any (x:Wd)(z:Int)(k:Nat)(hk:k<32)(hk0:0<k)(e1:bits BinOp.and IntKind.u64 (IntKind.u64.wrap z) 31=(k:Int))(w:World) :
  Calls Tryz.prog 231 #[.int .u32 (nm x),.int .i64 z] w fun e w'=>e = .returned (.int .u32 (nm (rl x k)))/\w'=w:=by
 have H:=Lib.hid (nm_rl x k hk)
 go_enter Tryz.func231,Tryz.ntmps231
 go_wp2
 go_ret
 exact⟨ret_int H.out,rfl⟩
theorem rotK (x:Wd)(z:Int)(k:Nat){w:World}(e1:bits BinOp.and IntKind.u64 (IntKind.u64.wrap z) 31=(k:Int):=by decide)(hk:k<32:=by decide)(hk0:0<k:=by decide):RV 231 #[.int .u32 (nm x),i6 z] w (.int .u32 (nm (rl x k))):=(rotz_any x z k hk hk0 e1 w).mono fun _ _ h=>⟨h.1,h.2▸Below.refl _ _⟩
theorem hmix {w0:World}{M0:MT}{R0:List Rw}{gv a b c d:Nat}{v:List Wd}{x y:Wd}(hl:v.length=16)(ha:a<16)(hb:b<16)(hc:c<16)(hd:d<16):RM 172 #[pt gv,i6 (a:Int),i6 (b:Int),i6 (c:Int),i6 (d:Int),.int .u32 (nm x),.int .u32 (nm y)] w0 ((gv,isB 288 (cells v))::M0) R0 (A:=Value) (fun _=>True) (fun u=>u) (fun _=>(gv,isB 288 (cells (mixS v a b c d x y)))::M0) (fun _=>R0):=by
 refine enterM Tryz.func172 ?_
 have l0:=hl
 refine dqs 15 (Y5 .mv .mv .nil (.ia0 a) .lwd (Y5 .mv .mv .nil (.ia0 b) .lwd (Y5 .mv .addW .addW .nil (.ia0 a) (YE (swd 0 ?_)))))
 refine en (gW 0 (fun v1x ev1x=>?_))
 have lv1x:v1x.length=16:=by rw[ev1x,List.length_set];assumption
 refine dqs 16 (Y5 .mv .mv .mv .mv .nil (Y5 (.ia0 d) .lwd .mv .mv .nil (Y3 (.ia0 a) .lwd .xorW (YC (fun _ _ h=>rotK ((gt v1x d)^^^(gt v1x a)) (-16) 16) (Y2 .nil (.ia0 d) (YE (swd 0 ?_)))))))
 refine en (gW 0 (fun v2x ev2x=>?_))
 have lv2x:v2x.length=16:=by rw[ev2x,List.length_set];assumption
 refine dqs 13 (Y5 .mv .mv .nil (.ia0 c) .lwd (Y5 .mv .mv .nil (.ia0 d) .lwd (Y3 .addW .nil (.ia0 c) (YE (swd 0 ?_)))))
 refine en (gW 0 (fun v3x ev3x=>?_))
 have lv3x:v3x.length=16:=by rw[ev3x,List.length_set];assumption
 refine dqs 16 (Y5 .mv .mv .mv .mv .nil (Y5 (.ia0 b) .lwd .mv .mv .nil (Y3 (.ia0 c) .lwd .xorW (YC (fun _ _ h=>rotK ((gt v3x b)^^^(gt v3x c)) (-12) 20) (Y2 .nil (.ia0 b) (YE (swd 0 ?_)))))))
 refine en (gW 0 (fun v4x ev4x=>?_))
 have lv4x:v4x.length=16:=by rw[ev4x,List.length_set];assumption
 refine dqs 15 (Y5 .mv .mv .nil (.ia0 a) .lwd (Y5 .mv .mv .nil (.ia0 b) .lwd (Y5 .mv .addW .addW .nil (.ia0 a) (YE (swd 0 ?_)))))
 refine en (gW 0 (fun v5x ev5x=>?_))
 have lv5x:v5x.length=16:=by rw[ev5x,List.length_set];assumption
 refine dqs 16 (Y5 .mv .mv .mv .mv .nil (Y5 (.ia0 d) .lwd .mv .mv .nil (Y3 (.ia0 a) .lwd .xorW (YC (fun _ _ h=>rotK ((gt v5x d)^^^(gt v5x a)) (-8) 24) (Y2 .nil (.ia0 d) (YE (swd 0 ?_)))))))
 refine en (gW 0 (fun v6x ev6x=>?_))
 have lv6x:v6x.length=16:=by rw[ev6x,List.length_set];assumption
 refine dqs 13 (Y5 .mv .mv .nil (.ia0 c) .lwd (Y5 .mv .mv .nil (.ia0 d) .lwd (Y3 .addW .nil (.ia0 c) (YE (swd 0 ?_)))))
 refine en (gW 0 (fun v7x ev7x=>?_))
 have lv7x:v7x.length=16:=by rw[ev7x,List.length_set];assumption
 refine dq 16 (Y5 .mv .mv .mv .mv .nil (Y5 (.ia0 b) .lwd .mv .mv .nil (Y3 (.ia0 c) .lwd .xorW (YC (fun _ _ h=>rotK ((gt v7x b)^^^(gt v7x c)) (-7) 25) (Y2 .nil (.ia0 b) (YE (swd 0 ?_)))))))
 refine en0 (gW 0 (fun v8x ev8x=>?_))
 have lv8x:v8x.length=16:=by rw[ev8x,List.length_set];assumption
 refine kM 0 (cells (mixS v a b c d x y)) ?_ (hc:=by subst ev8x ev7x ev6x ev5x ev4x ev3x ev2x ev1x;rfl)
 exact e0N (fun u w h=>⟨u,trivial,rfl,h⟩)
end Go.Proofs.YtdjholkjkbihmaaGreatDoor
