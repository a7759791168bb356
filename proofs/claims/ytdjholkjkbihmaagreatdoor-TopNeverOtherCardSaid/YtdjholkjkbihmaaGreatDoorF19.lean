/- Laws and walks of TopNeverOther. -/
import Derived.Lib.ItoaLen
import Derived.Test.YtdjholkjkbihmaaGreatDoorF18
namespace Go.Proofs.YtdjholkjkbihmaaGreatDoor
open Go.RowKit
set_option maxRecDepth 100000
set_option maxHeartbeats 4000000
section
attribute [local irreducible] sumS
abbrev pkF (D:KyD)(bxs:List Bx):PkS:=⟨D.pnm (D.mkp bxs),D.pl bxs⟩
def pkD (D:KyD)(bxs:List Bx)(r i:Nat):List UInt8:=partD (D.pnm (D.mkp bxs)) (D.mkp bxs) r i
theorem pnm_len {D:KyD}(h:KyOk D)(b:List UInt8):(D.pnm b).length=69:=by
 obtain⟨t,h1,h2,_⟩:=h.pnm b
 rw[h1,List.length_append,h2];rfl
theorem vflush {D:KyD}{w0:World}{M0:MT}{R0:List Rw}{q:Vv}{N:Int}{Z:Nat->Shf}{refs:List (List UInt8)}{bxs:List Bx}{ps:List (List UInt8)}{r:Nat}(hK:EnvK D w0)(hq:∀ u ∈ [q.a,q.b,q.c,q.d,q.e,q.f,q.g,q.h,q.i,q.j,q.r,q.y,q.x,q.z,q.t,q.pd,q.pn],u.oneCell'=true)(hZ:∀ i,i<5->(Z i).objs.length<2^36/\(Z i).fates.length<2^36)(hbx:BxOk bxs)(hr:rowsP ((D.mkp bxs).length:Int)=(r:Int))(hp:∀ i,i<5->PutOk (Z i) (D.pnm (D.mkp bxs)) (pkD D bxs r i)):RM 18 #[.agg (vltC q N).toArray] w0 M0 (⟨q.a,73,4,(Z 0).objs.length,(obs (Z 0).objs)⟩::⟨q.b,3,1,(Z 0).fates.length,(nts (Z 0).fates)⟩::⟨q.c,73,4,(Z 1).objs.length,(obs (Z 1).objs)⟩::⟨q.d,3,1,(Z 1).fates.length,(nts (Z 1).fates)⟩::⟨q.e,73,4,(Z 2).objs.length,(obs (Z 2).objs)⟩::⟨q.f,3,1,(Z 2).fates.length,(nts (Z 2).fates)⟩::⟨q.g,73,4,(Z 3).objs.length,(obs (Z 3).objs)⟩::⟨q.h,3,1,(Z 3).fates.length,(nts (Z 3).fates)⟩::⟨q.i,73,4,(Z 4).objs.length,(obs (Z 4).objs)⟩::⟨q.j,3,1,(Z 4).fates.length,(nts (Z 4).fates)⟩::⟨q.r,106,33,1,D.ep⟩::⟨q.y,23,32,1,(dgC D.k)⟩::⟨q.x,88,5,refs.length,(refsC refs)⟩::⟨q.z,118,2,0,[]⟩::⟨q.t,161,34,0,[]⟩::⟨q.pd,101,2,bxs.length,(bxsC bxs)⟩::⟨q.pn,9,1,ps.length,(txs ps)⟩::R0) (A:=Nat->Value) (fun _=>True) (fun x=>.tuple #[.agg (vltC { q with a:=x 0,b:=x 1,c:=x 2,d:=x 3,e:=x 4,f:=x 5,g:=x 6,h:=x 7,i:=x 8,j:=x 9,z:=x 11,pd:=nv } N).toArray,i6 0]) (fun _=>M0) (fun x=>(⟨(x 0),73,4,(pZ Z (D.pnm (D.mkp bxs)) (pkD D bxs r) 0).objs.length,(obs (pZ Z (D.pnm (D.mkp bxs)) (pkD D bxs r) 0).objs)⟩::⟨(x 1),3,1,(pZ Z (D.pnm (D.mkp bxs)) (pkD D bxs r) 0).fates.length,(nts (pZ Z (D.pnm (D.mkp bxs)) (pkD D bxs r) 0).fates)⟩::⟨(x 2),73,4,(pZ Z (D.pnm (D.mkp bxs)) (pkD D bxs r) 1).objs.length,(obs (pZ Z (D.pnm (D.mkp bxs)) (pkD D bxs r) 1).objs)⟩::⟨(x 3),3,1,(pZ Z (D.pnm (D.mkp bxs)) (pkD D bxs r) 1).fates.length,(nts (pZ Z (D.pnm (D.mkp bxs)) (pkD D bxs r) 1).fates)⟩::⟨(x 4),73,4,(pZ Z (D.pnm (D.mkp bxs)) (pkD D bxs r) 2).objs.length,(obs (pZ Z (D.pnm (D.mkp bxs)) (pkD D bxs r) 2).objs)⟩::⟨(x 5),3,1,(pZ Z (D.pnm (D.mkp bxs)) (pkD D bxs r) 2).fates.length,(nts (pZ Z (D.pnm (D.mkp bxs)) (pkD D bxs r) 2).fates)⟩::⟨(x 6),73,4,(pZ Z (D.pnm (D.mkp bxs)) (pkD D bxs r) 3).objs.length,(obs (pZ Z (D.pnm (D.mkp bxs)) (pkD D bxs r) 3).objs)⟩::⟨(x 7),3,1,(pZ Z (D.pnm (D.mkp bxs)) (pkD D bxs r) 3).fates.length,(nts (pZ Z (D.pnm (D.mkp bxs)) (pkD D bxs r) 3).fates)⟩::⟨(x 8),73,4,(pZ Z (D.pnm (D.mkp bxs)) (pkD D bxs r) 4).objs.length,(obs (pZ Z (D.pnm (D.mkp bxs)) (pkD D bxs r) 4).objs)⟩::⟨(x 9),3,1,(pZ Z (D.pnm (D.mkp bxs)) (pkD D bxs r) 4).fates.length,(nts (pZ Z (D.pnm (D.mkp bxs)) (pkD D bxs r) 4).fates)⟩::⟨q.r,106,33,1,D.ep⟩::⟨q.y,23,32,1,(dgC D.k)⟩::⟨q.x,88,5,refs.length,(refsC refs)⟩::⟨(x 10),158,3,(pkF D bxs).pl.length,(plsC (pkF D bxs).pl)⟩::⟨(x 11),118,2,1,[tx (pkF D bxs).nm,(x 10)]⟩::⟨q.t,161,34,0,[]⟩::⟨(nv),101,2,([]:List Bx).length,(bxsC ([]:List Bx))⟩::⟨q.pn,9,1,ps.length,(txs ps)⟩::R0)):=by
 refine enterM Tryz.func18 ?_
 have o_a:q.a.oneCell'=true:=hq _ (by simp)
 have o_b:q.b.oneCell'=true:=hq _ (by simp)
 have o_c:q.c.oneCell'=true:=hq _ (by simp)
 have o_d:q.d.oneCell'=true:=hq _ (by simp)
 have o_e:q.e.oneCell'=true:=hq _ (by simp)
 have o_f:q.f.oneCell'=true:=hq _ (by simp)
 have o_g:q.g.oneCell'=true:=hq _ (by simp)
 have o_h:q.h.oneCell'=true:=hq _ (by simp)
 have o_i:q.i.oneCell'=true:=hq _ (by simp)
 have o_j:q.j.oneCell'=true:=hq _ (by simp)
 have o_r:q.r.oneCell'=true:=hq _ (by simp)
 have o_y:q.y.oneCell'=true:=hq _ (by simp)
 have o_x:q.x.oneCell'=true:=hq _ (by simp)
 have o_z:q.z.oneCell'=true:=hq _ (by simp)
 have o_t:q.t.oneCell'=true:=hq _ (by simp)
 have o_pd:q.pd.oneCell'=true:=hq _ (by simp)
 have o_pn:q.pn.oneCell'=true:=hq _ (by simp)
 have hbl:=hK.ok.mkp bxs hbx
 have hnl:=pnm_len hK.ok (D.mkp bxs)
 refine rg (ba (fun g0=>?_))
 refine aa Tryz.zeroValue50 (fun g1=>p1 .as (en (kM 1 #[q.a,q.b,q.c,q.d,q.e,q.f,q.g,q.h,q.i,q.j,i6 (-1),q.r,q.y,i6 N,i6 0,q.x,q.z,i6 3,i6 2,i6 1,i6 1,q.t,q.pd,q.pn] ?_)))
 refine se (rg (p2 .fa .ld (pp (PR.lr) (p1 .eqi (en (cf (hb:=(by have:=hbx.n;simp;intro h;rw[h] at this;simp at this)) (sk ?_)))))))
 refine nN (rg (p2 .fa .ld (cl (fun _ _ h=>hK.pmk (l:=bxs) h.m.below (h.s 15) hbx) (p5 .mv .ext .ext .as .as (en (se (r2 .mv .nei (cf (sk (nN (rg (p1 .mv (ce (fun _ _ h=>hK.pof (l:=bxs) h.m.below hbx) (fun xx=>?_))))))))))))))
 refine osl 0 (fun hxx=>?_)
 obtain⟨xa,xn,xc,rfl⟩:=hxx
 refine p5 .mv .ext .ext .as .as (en (se ?_))
 refine r2 .mv .nei (cf (sk (nN (rg (p1 .mv (cl (fun _ _ h=>hK.pna (b:=(D.mkp bxs)) h.m.below (by omega)) (p1 .as (en (rg (p1 .fa (pp (PR.ls [q.a,q.b,q.c,q.d,q.e,q.f,q.g,q.h,q.i,q.j,i6 (-1)]) (p2 .mv .mv (ce (fun _ _ h=>swrite (Z:=Z) (d:=(D.mkp bxs)) (nm:=(D.pnm (D.mkp bxs))) (r:=r) (hK.e.below h.m.below) ⟨⟨h.s 1,h.s 2,(hZ 0 (by decide)).1,(hZ 0 (by decide)).2⟩,⟨h.s 3,h.s 4,(hZ 1 (by decide)).1,(hZ 1 (by decide)).2⟩,⟨h.s 5,h.s 6,(hZ 2 (by decide)).1,(hZ 2 (by decide)).2⟩,⟨h.s 7,h.s 8,(hZ 3 (by decide)).1,(hZ 3 (by decide)).2⟩,⟨h.s 9,h.s 10,(hZ 4 (by decide)).1,(hZ 4 (by decide)).2⟩⟩ hr hp (by omega) (by omega)) (fun wa wb wc wd we wf wg wh wi wj=>?_))))))))))))))
 refine osL 10 ?_
 iterate 20 intro
 refine p3 .mv .ext .ext (aa Tryz.zeroValue31 (fun g2=>sw 0 ?_))
 refine p1 .as (en (rg (p2 .lw .fa (sc 2 (cs:=#[wa,wb,wc,wd,we,wf,wg,wh,wi,wj,i6 (-1),q.r,q.y,i6 N,i6 0,q.x,q.z,i6 3,i6 2,i6 1,i6 1,q.t,q.pd,q.pn]) ?_))))
 refine en (se (r2 .mv .nei (cf (sk (nN (rg (p5 .fa .fq .ld .mv .mv (pp (PR.bd #[sv (D.pnm (D.mkp bxs)),.slice xa xn xc]) (bs #[sv (D.pnm (D.mkp bxs)),.slice xa xn xc] (fun g3=>?_))))))))))
 refine ap 24 (fun v0=>?_)
 refine os 24 (fun ov0 _=>?_)
 refine rc 24 1 [tx (D.pnm (D.mkp bxs)),.slice xa xn xc] (hn:=rfl) (hx:=rfl) (h:=?_)
 refine p2 .fa .fq (s1 3 (cs:=#[wa,wb,wc,wd,we,wf,wg,wh,wi,wj,i6 (-1),q.r,q.y,i6 N,i6 0,q.x,v0,i6 3,i6 2,i6 1,i6 1,q.t,q.pd,q.pn]) ?_)
 refine en (rg (p1 .fa (s1 3 (cs:=#[wa,wb,wc,wd,we,wf,wg,wh,wi,wj,i6 (-1),q.r,q.y,i6 N,i6 0,q.x,v0,i6 3,i6 2,i6 1,i6 1,q.t,nv,q.pn]) ?_)))
 refine en (rg (p1 .lw (sw 2 ?_)))
 refine p1 .as (en (rt (nr 101 2 ?_)))
 refine fr [] [17,17,17,17,17,17,17,17,17,17,27,27,27,14,27,27,1,28] ?_
 exact kL [(2,pt g1),(3,i6 0)] (rm (fun i=>([wa,wb,wc,wd,we,wf,wg,wh,wi,wj,.slice xa xn xc,v0]:List Value).getD i undef) trivial su)
end
section
attribute [local irreducible] sumS
theorem ones17 {l:List Value}(h:(l.all fun u=>u.oneCell')=true):∀ u∈l,u.oneCell'=true:=List.all_eq_true.1 h
theorem VIn.zz {D:KyD}{w:World}{q:Vv}{Z:Nat->Shf}{refs:List (List UInt8)}{bxs:List Bx}{ps:List (List UInt8)}(h:VIn D w q Z refs bxs ps):∀ i,i<5->(Z i).objs.length<2^36/\(Z i).fates.length<2^36:=fun i hi=>by
 obtain rfl | rfl | rfl | rfl | rfl:i=0\/i=1\/i=2\/i=3\/i=4:=by omega
 ·exact⟨h.s.a0.ho,h.s.a0.hf⟩
 ·exact⟨h.s.a1.ho,h.s.a1.hf⟩
 ·exact⟨h.s.a2.ho,h.s.a2.hf⟩
 ·exact⟨h.s.a3.ho,h.s.a3.hf⟩
 ·exact⟨h.s.a4.ho,h.s.a4.hf⟩
theorem vPut {D:KyD}{w:World}{q:Vv}{N:Int}{Z:Nat->Shf}{refs:List (List UInt8)}{bxs:List Bx}{ps:List (List UInt8)}{dt:List UInt8}(hK:EnvK D w)(hV:VIn D w q Z refs bxs ps)(hP:Sl w q.z 2 0 [])(hlb:bxs.length<2^36-1)(hd:dt.length<=32768)(hsz:(D.bx dt).length+szB bxs bxs.length<=32768):RT 7 #[.agg (vltC q N).toArray,sv dt] w (stZ Z fun a b c d e f g h i j=>kyK D fun r y=>.row 88 5 refs.length (refsC refs) fun x=>.row 118 2 0 [] fun z=>.row 161 34 0 [] fun t=>.row 101 2 (putB bxs (D.nm dt) (D.bx dt)).length (bxsC (putB bxs (D.nm dt) (D.bx dt))) fun pd=>.row 9 1 (pinS ps (D.nm dt)).length (txs (pinS ps (D.nm dt))) fun pn=>.ret (.tuple #[.agg (vltC ⟨a,b,c,d,e,f,g,h,i,j,r,y,x,z,t,pd,pn⟩ N).toArray,sv (D.nm dt),i6 0])):=by
 refine enter Tryz.func7 ?_
 obtain⟨k0,k1,k2,k3,k4,k5,k6,k7,k8,k9⟩:=hV.s.one
 have o_r:=hV.r.one
 have o_y:=hV.y.one
 have o_x:=hV.x.one
 have o_t:=hV.t.one
 have o_pd:=hV.pd.one
 have o_pn:=hV.pn.one
 have o_z:=hP.one
 refine rg (ba (fun g0=>?_))
 refine aa Tryz.zeroValue50 (fun g1=>p2 .as .as (en (kM 1 #[q.a,q.b,q.c,q.d,q.e,q.f,q.g,q.h,q.i,q.j,i6 (-1),q.r,q.y,i6 N,i6 0,q.x,q.z,i6 3,i6 2,i6 1,i6 1,q.t,q.pd,q.pn] ?_)))
 refine rg (p1 .lw (ce (fun _ _ h=>cvl0 (q:=q) hK.ok (hV.below h.m.below) (hP.below h.m.below)) (fun na nb nc nd ne nf ng nh ni nj nr ny nx nz nt np nq=>?_)))
 refine osL 17 ?_
 iterate 34 intro
 refine p1 .mv (cm (vput (q:=⟨na,nb,nc,nd,ne,nf,ng,nh,ni,nj,nr,ny,nx,nz,nt,np,nq⟩) (Z:=Z) hK onesA hV.zz hV.lx hlb hV.lp hd hsz) (fun x _=>?_))
 refine os 15 (fun ox1 _=>?_)
 refine os 16 (fun ox2 _=>?_)
 refine p3 .ext .ext .ext (sw 0 ?_)
 exact p2 .as .as (en (rt (et [0,1,2,3,4,5,6,7,8,9,10,11,12,13,14,15,16])))
theorem vFlush {D:KyD}{w:World}{q:Vv}{N:Int}{Z:Nat->Shf}{refs:List (List UInt8)}{bxs:List Bx}{ps:List (List UInt8)}{r:Nat}(hK:EnvK D w)(hV:VIn D w q Z refs bxs ps)(hP:Sl w q.z 2 0 [])(hbx:BxOk bxs)(hr:rowsP ((D.mkp bxs).length:Int)=(r:Int))(hp:∀ i,i<5->PutOk (Z i) (D.pnm (D.mkp bxs)) (pkD D bxs r i)):RT 8 #[.agg (vltC q N).toArray] w (stZ (pZ Z (D.pnm (D.mkp bxs)) (pkD D bxs r)) fun a b c d e f g h i j=>kyK D fun r y=>.row 88 5 refs.length (refsC refs) fun x=>.row 158 3 (pkF D bxs).pl.length (plsC (pkF D bxs).pl) fun xx=>.row 118 2 1 [tx (pkF D bxs).nm,xx] fun z=>.row 161 34 0 [] fun t=>.row 101 2 ([]:List Bx).length (bxsC ([]:List Bx)) fun pd=>.row 9 1 ps.length (txs ps) fun pn=>.ret (.tuple #[.agg (vltC ⟨a,b,c,d,e,f,g,h,i,j,r,y,x,z,t,pd,pn⟩ N).toArray,i6 0])):=by
 refine enter Tryz.func8 ?_
 obtain⟨k0,k1,k2,k3,k4,k5,k6,k7,k8,k9⟩:=hV.s.one
 have o_r:=hV.r.one
 have o_y:=hV.y.one
 have o_x:=hV.x.one
 have o_t:=hV.t.one
 have o_pd:=hV.pd.one
 have o_pn:=hV.pn.one
 have o_z:=hP.one
 refine rg (ba (fun g0=>?_))
 refine aa Tryz.zeroValue50 (fun g1=>p1 .as (en (kM 1 #[q.a,q.b,q.c,q.d,q.e,q.f,q.g,q.h,q.i,q.j,i6 (-1),q.r,q.y,i6 N,i6 0,q.x,q.z,i6 3,i6 2,i6 1,i6 1,q.t,q.pd,q.pn] ?_)))
 refine rg (p1 .lw (ce (fun _ _ h=>cvl0 (q:=q) hK.ok (hV.below h.m.below) (hP.below h.m.below)) (fun na nb nc nd ne nf ng nh ni nj nr ny nx nz nt np nq=>?_)))
 refine osL 17 ?_
 iterate 34 intro
 refine cm (vflush (q:=⟨na,nb,nc,nd,ne,nf,ng,nh,ni,nj,nr,ny,nx,nz,nt,np,nq⟩) (Z:=Z) hK onesA hV.zz hbx hr hp) (fun x _=>?_)
 refine osL 10 ?_
 iterate 20 intro
 refine os 14 (fun ox14 _=>?_)
 refine p2 .ext .ext (sw 0 ?_)
 exact p1 .as (en (rt (et [0,1,2,3,4,5,6,7,8,9,10,11,12,13,14,15,16,17])))
end
section
structure N2 (D:List Deferred)(nt:Nat)(w0:World)(L:LT)(M:MT)(R:List Rw)(kB gB:Nat)(tB:TypeId)(X0 X1 X2:Array Value)(d0 d1 d2 d4:Nat)(v0 v1 v2 v4:Value)(b:Nat->Bool)(a:Act)(W:World):Prop where
 sz:a.tmps.size=nt
 df:a.defers=D
 base:∀ s x,lz L s=some x->a.tmps[s]?=some x
 p0:b 0=true->a.tmps[d0]?=some v0
 p1:b 1=true->a.tmps[d1]?=some v1
 p2:b 2=true->a.tmps[d2]?=some v2
 p4:b 4=true->a.tmps[d4]?=some v4
 cl:b 5=true->b 3=true
 mem:MR w0 (M.set kB (gB,isB tB (cond (b 5) X2 (cond (b 3) X1 X0)))) R W
section
variable {D:List Deferred}{nt:Nat}{w0:World}{L:LT}{M:MT}{R:List Rw}{kB gB:Nat}{tB:TypeId}{X0 X1 X2:Array Value}{d0 d1 d2 d4:Nat}{v0 v1 v2 v4:Value}{b:Nat->Bool}{a:Act}{W:World}
theorem N2.put (h:N2 D nt w0 L M R kB gB tB X0 X1 X2 d0 d1 d2 d4 v0 v1 v2 v4 b a W)(i d:Nat)(x:Value)(hd:(i=0/\d=d0/\x=v0)\/(i=1/\d=d1/\x=v1)\/(i=2/\d=d2/\x=v2)\/(i=4/\d=d4/\x=v4))(hs:d<nt)(hn:[d0,d1,d2,d4].Nodup)(hL:∀ s x,lz L s=some x->s≠d):N2 D nt w0 L M R kB gB tB X0 X1 X2 d0 d1 d2 d4 v0 v1 v2 v4 (fun j=>b j||j==i) (a.put (some d) x) W:=by
 simp only[List.nodup_cons,List.mem_cons,List.not_mem_nil,or_false,not_or,List.nodup_nil,and_true,not_false_eq_true] at hn
 obtain⟨⟨n1,n2,n3⟩,⟨n4,n5⟩,n6⟩:=hn
 have base:∀ s y,lz L s=some y->(a.put (some d) x).tmps[s]?=some y:=fun s y q=>by
  rw[put_ne (Ne.symm (hL s y q))]
  exact h.base s y q
 rcases hd with⟨rfl,rfl,rfl⟩ | ⟨rfl,rfl,rfl⟩ | ⟨rfl,rfl,rfl⟩ | ⟨rfl,rfl,rfl⟩
 all_goals
  refine⟨by rw[put_sz,h.sz],h.df,base,fun q=>?_,fun q=>?_,fun q=>?_,fun q=>?_,fun q=>by simp at q ⊢;exact h.cl q,by simpa using h.mem⟩
  all_goals first
   | exact put_self (by rw[h.sz];exact hs)
   | (rw[put_ne (by first | assumption | exact Ne.symm (by assumption))];first | exact h.p0 (by simpa using q) | exact h.p1 (by simpa using q) | exact h.p2 (by simpa using q) | exact h.p4 (by simpa using q))
theorem drS2 {id:Nat}{Q:Exit->Act->World->Prop}{cc:Code}{l:List Oper}{s0 s1 sB g0 g1 n0 n1 j0 j1 o0 o1:Nat}{offs:List Nat}{c0 c1:Array Value}{ty0 ty1 tS y0 y1 y2 y3 y4 y5 t0 t1:TypeId}{q0 q1 q2 q3 q4 q5:String}{f0 f1 f2 f3 f4 f5:Array Edge}(k0 k1 kB:Nat)(X1 X2:Array Value)(h:KX D nt w0 L (M.set kB (gB,isB tB X2)) R (cc.wp Tryz.prog Q))
  (hl:l = [⟨some d0,.load ty0 (.tmp s0),y0,q0,f0,none⟩,⟨some d1,.load ty1 (.tmp s1),y1,q1,f1,none⟩,⟨some d2,.fieldAddr tS (.tmp sB) j0,y2,q2,f2,none⟩,⟨none,.store ty0 (.tmp d2) (.tmp d0),y3,q3,f3,none⟩,⟨some d4,.fieldAddr tS (.tmp sB) j1,y4,q4,f4,none⟩,⟨none,.store ty1 (.tmp d4) (.tmp d1),y5,q5,f5,none⟩]:=by rfl)
  (e0:lz L s0=some (pt g0):=by rfl) (e1:lz L s1=some (pt g1):=by rfl) (eB:lz L sB=some (pt gB):=by rfl) (m0:M[k0]?=some (g0,isB t0 c0):=by rfl) (m1:M[k1]?=some (g1,isB t1 c1):=by rfl) (mB:M[kB]?=some (gB,isB tB X0):=by rfl) (kn:k0≠kB/\k1≠kB:=by decide)
  (ha0:agT ty0=some true:=by rfl) (ha1:agT ty1=some true:=by rfl) (hz0:szT ty0=some n0:=by rfl) (hz1:szT ty1=some n1:=by rfl) (hn0:c0.size=n0:=by rfl) (hn1:c1.size=n1:=by rfl) (h10:c0.all (·.oneCell')=true) (h11:c1.all (·.oneCell')=true)
  (hf:foT tS=some offs:=by rfl) (hj0:offs[j0]?=some o0:=by rfl) (hj1:offs[j1]?=some o1:=by rfl) (hw0:o0+n0<=X0.size:=by exact Nat.le_of_ble_eq_true rfl) (hw1:o1+n1<=X1.size:=by exact Nat.le_of_ble_eq_true rfl) (hX1:spl X0 o0 c0.toList=X1:=by rfl) (hX2:spl X1 o1 c1.toList=X2:=by rfl)
  (hL:(L.all fun p=>[d0,d1,d2,d4].all fun d=>!(Nat.beq p.1 d))=true:=by kernel_rfl) (hn:[d0,d1,d2,d4].Nodup:=by decide) (hd:[d0,d1,d2,d4].all (fun d=>Nat.blt d nt)=true:=by rfl)
  (w30:Region.waitsFor .any l.toArray 3 0=true:=by kernel_rfl) (w32:Region.waitsFor .any l.toArray 3 2=true:=by kernel_rfl) (w53:Region.waitsFor .any l.toArray 5 3=true:=by kernel_rfl) (w51:Region.waitsFor .any l.toArray 5 1=true:=by kernel_rfl) (w54:Region.waitsFor .any l.toArray 5 4=true:=by kernel_rfl) (hB:looseB l nt=true:=by kernel_rfl) (hm:Tryz.prog.follows .mixedOrders=true:=by kernel_rfl):KX D nt w0 L M R ((Code.seq (Code.region id l.toArray true) cc).wp Tryz.prog Q):=fun a w hst=>by
 simp only[List.all_cons,List.all_nil,Bool.and_true,Bool.and_eq_true] at hd
 obtain⟨z0,z1,z2,z4⟩:=hd
 have lt:∀ {x:Nat},Nat.blt x nt=true->x<nt:=fun h=>Nat.le_of_ble_eq_true h
 have hne:∀ d ∈ [d0,d1,d2,d4],∀ s x,lz L s=some x->s≠d:=fun d hdm s x hsx=>by
  obtain⟨p,hp,rfl⟩:=lz_mem hsx
  have h3:=List.all_eq_true.1 (List.all_eq_true.1 hL p hp) d hdm
  intro e
  rw[e,Nat.beq_refl] at h3
  cases h3
 have hM0:M.set kB (gB,isB tB X0)=M:=by
  obtain⟨h1,h2⟩:=List.getElem?_eq_some_iff.1 mB
  rw[←h2];exact List.set_getElem_self h1
 refine wp_seq ?_
 refine wp_region_inv2 nt hm hB (fun b a W=>N2 D nt w0 L M R kB gB tB X0 X1 X2 d0 d1 d2 d4 (.agg c0) (.agg c1) (px gB o0) (px gB o1) b a W) ⟨hst.f.size,hst.f.defers,fun s x q=>hst.f.has s x (by rw[←lz_eq];exact q),(by intro h;cases h),(by intro h;cases h),(by intro h;cases h),(by intro h;cases h),(by intro h;cases h),by
  show MR w0 (M.set kB (gB,isB tB X0)) R _
  rw[hM0]
  exact⟨hst.m.drew,fun x hx=>(hst.r x hx).grow (Below.refl _ _).drew,hst.nd⟩⟩ ?_ ?_
 ·rintro b a W i o I hio hLi hw
  have hi:i<6:=by have:=(List.getElem?_eq_some_iff.1 hio).1;rw[hl] at this;simpa using this
  have E0:a.eval (.tmp s0)=pt g0:=eval_tmp (I.base _ _ e0)
  have E1:a.eval (.tmp s1)=pt g1:=eval_tmp (I.base _ _ e1)
  have EB:a.eval (.tmp sB)=pt gB:=eval_tmp (I.base _ _ eB)
  have B0:Blk W g0 t0 c0:=I.mem.m.at k0 (by rw[List.getElem?_set_ne (Ne.symm kn.1)];exact m0)
  have B1:Blk W g1 t1 c1:=I.mem.m.at k1 (by rw[List.getElem?_set_ne (Ne.symm kn.2)];exact m1)
  have hkB:kB<M.length:=(List.getElem?_eq_some_iff.1 mB).1
  rw[hl] at hio
  left
  obtain rfl | rfl | rfl | rfl | rfl | rfl:i=0\/i=1\/i=2\/i=3\/i=4\/i=5:=by omega
  all_goals cases hio
  all_goals refine⟨wanted_yes rfl,?_⟩
  ·have hr:(execOp a.eval ⟨some d0,.load ty0 (.tmp s0),y0,q0,f0,none⟩).run Tryz.prog W = .ok (.value (.agg c0)) W:=PR.lw (G:=fun a2 W2=>a2.eval (.tmp s0)=pt g0/\Blk W2 g0 t0 c0) (fun _ _ h=>h.1) (fun _ _ h=>h.2) ha0 hz0 hn0 a W _ rfl ⟨E0,B0⟩
   rw[hr]
   exact⟨trivial,I.put 0 d0 _ (.inl ⟨rfl,rfl,rfl⟩) (lt z0) hn (hne _ (by simp))⟩
  ·have hr:(execOp a.eval ⟨some d1,.load ty1 (.tmp s1),y1,q1,f1,none⟩).run Tryz.prog W = .ok (.value (.agg c1)) W:=PR.lw (G:=fun a2 W2=>a2.eval (.tmp s1)=pt g1/\Blk W2 g1 t1 c1) (fun _ _ h=>h.1) (fun _ _ h=>h.2) ha1 hz1 hn1 a W _ rfl ⟨E1,B1⟩
   rw[hr]
   exact⟨trivial,I.put 1 d1 _ (.inr (.inl ⟨rfl,rfl,rfl⟩)) (lt z1) hn (hne _ (by simp))⟩
  ·have hr:(execOp a.eval ⟨some d2,.fieldAddr tS (.tmp sB) j0,y2,q2,f2,none⟩).run Tryz.prog W = .ok (.value (px gB o0)) W:=PR.fa (G:=fun a2 _=>a2.eval (.tmp sB)=pt gB) (fun _ _ h=>h) hf hj0 a W _ rfl EB
   rw[hr]
   exact⟨trivial,I.put 2 d2 _ (.inr (.inr (.inl ⟨rfl,rfl,rfl⟩))) (lt z2) hn (hne _ (by simp))⟩
  ·have hb5:b 5=false:=by
    cases hq:b 5 with
    | false=>rfl
    | true=>have:=I.cl hq;rw[hLi] at this;cases this
   have hmem:=I.mem
   rw[hb5,hLi] at hmem
   have e3:(M.set kB (gB,isB tB X0))[kB]?=some (gB,isB tB X0):=by rw[List.getElem?_set_self hkB]
   have hrun:=run_stG (v:=.agg c0) (o:=o0) (hmem.m.at kB e3) hz0 hn0 h10 (by exact hw0)
   have hr:(execOp a.eval ⟨none,.store ty0 (.tmp d2) (.tmp d0),y3,q3,f3,none⟩).run Tryz.prog W = .ok .skip (W.setRow gB X1):=by
    unfold execOp
    simp only[eval_tmp (I.p2 (hw 2 w32)),eval_tmp (I.p0 (hw 0 w30)),Instr.storeAt,Instr.sureAddr,Sem.run_bind,Sem.run_pure,Result.andThen_ok,hrun]
    rw[show spl X0 o0 (Value.agg c0).cells.toList=X1 from hX1]
   rw[hr]
   refine⟨trivial,I.sz,I.df,I.base,fun q=>I.p0 (by simpa using q),fun q=>I.p1 (by simpa using q),fun q=>I.p2 (by simpa using q),fun q=>I.p4 (by simpa using q),fun q=>by simp,?_⟩
   have h2:MR w0 ((M.set kB (gB,isB tB X0)).set kB (gB,isB tB X1)) R (W.setRow gB X1):=⟨hmem.m.row kB e3 X1,fun x hx=>(hmem.r x hx).upd kB e3 (grown_setRow W gB X1),hmem.nd⟩
   rw[List.set_set] at h2
   simpa[hb5] using h2
  ·have hr:(execOp a.eval ⟨some d4,.fieldAddr tS (.tmp sB) j1,y4,q4,f4,none⟩).run Tryz.prog W = .ok (.value (px gB o1)) W:=PR.fa (G:=fun a2 _=>a2.eval (.tmp sB)=pt gB) (fun _ _ h=>h) hf hj1 a W _ rfl EB
   rw[hr]
   exact⟨trivial,I.put 4 d4 _ (.inr (.inr (.inr ⟨rfl,rfl,rfl⟩))) (lt z4) hn (hne _ (by simp))⟩
  ·have hb3:=hw 3 w53
   have hmem:=I.mem
   rw[hLi,hb3] at hmem
   have e3:(M.set kB (gB,isB tB X1))[kB]?=some (gB,isB tB X1):=by rw[List.getElem?_set_self hkB]
   have hrun:=run_stG (v:=.agg c1) (o:=o1) (hmem.m.at kB e3) hz1 hn1 h11 (by exact hw1)
   have hr:(execOp a.eval ⟨none,.store ty1 (.tmp d4) (.tmp d1),y5,q5,f5,none⟩).run Tryz.prog W = .ok .skip (W.setRow gB X2):=by
    unfold execOp
    simp only[eval_tmp (I.p4 (hw 4 w54)),eval_tmp (I.p1 (hw 1 w51)),Instr.storeAt,Instr.sureAddr,Sem.run_bind,Sem.run_pure,Result.andThen_ok,hrun]
    rw[show spl X1 o1 (Value.agg c1).cells.toList=X2 from hX2]
   rw[hr]
   refine⟨trivial,I.sz,I.df,I.base,fun q=>I.p0 (by simpa using q),fun q=>I.p1 (by simpa using q),fun q=>I.p2 (by simpa using q),fun q=>I.p4 (by simpa using q),fun _=>by simp[hb3],?_⟩
   have h2:MR w0 ((M.set kB (gB,isB tB X1)).set kB (gB,isB tB X2)) R (W.setRow gB X2):=⟨hmem.m.row kB e3 X2,fun x hx=>(hmem.r x hx).upd kB e3 (grown_setRow W gB X2),hmem.nd⟩
   rw[List.set_set] at h2
   simpa using h2
 ·rintro b a W hall I
  have hmem:=I.mem
  rw[hall 5 (by rw[hl];simp)] at hmem
  exact h a W ⟨⟨I.sz,I.df,fun s x hx=>I.base s x (by rw[lz_eq];exact hx)⟩,hmem.m,hmem.r,hmem.nd⟩
end
end
section
attribute [local irreducible] sumS rtObj
abbrev zE :Nat->Shf:=fun _=>⟨[],[]⟩
theorem slN {w:World}{m:Nat}:Sl w (nv) m 0 []:=⟨by simp,.inl ⟨⟨none,0,rfl⟩,rfl⟩⟩
theorem nmE :nmA zE rootT = []:=by
 have h:accN zE rootT 5 = []:=by decide
 unfold nmA
 rw[h]
 simp[srt,Lib.compact,Lib.compactUpTo]
theorem vNew {D:KyD}{w:World}(hK:EnvK D w)(hk:RtOk 1 [] [])(hB:RtB 1 [] [])(hL:(rowS (rtT 1 [] [])).length<=60000)(hp:∀ i,i<5->PutOk (zE i) (nameR 1) (rtObj D (nameR 1) (rowS (rtT 1 [] [])))):RT 15 #[.agg #[nv,nv,nv,nv,nv,nv,nv,nv,nv,nv,i6 (-1)],.agg (cells8 D.k),sv D.no,i6 0,.agg #[i6 3,i6 2,i6 1,i6 1]] w (stZ (pZ zE (nameR 1) (fun _=>(rtObj D (nameR 1) (rowS (rtT 1 [] []))))) fun a b c d e f g h i j=>kyK D fun r y=>.row 71 33 5 D.sh fun sh=>.ret (.tuple #[.agg (vltC ⟨a,b,c,d,e,f,g,h,i,j,r,y,nv,nv,nv,nv,nv⟩ 1).toArray,sh,i6 0])):=by
 refine enter Tryz.func15 ?_
 have hk32:(cells8 D.k).size=32:=by rw[cells8_size,hK.ok.k]
 refine rg (ba (fun g0=>?_))
 refine ba (fun g1=>?_)
 refine ba (fun g2=>?_)
 refine aa Tryz.zeroValue50 (fun g3=>p2 .as .as (en (rg (p1 .lw (ce (fun _ _ h=>cstore (z0:=zE 0) (z1:=zE 1) (z2:=zE 2) (z3:=zE 3) (z4:=zE 4) ⟨⟨slN,slN,by decide,by decide⟩,⟨slN,slN,by decide,by decide⟩,⟨slN,slN,by decide,by decide⟩,⟨slN,slN,by decide,by decide⟩,⟨slN,slN,by decide,by decide⟩⟩) (fun sva svb svc svd sve svf svg svh svi svj=>?_))))))
 refine osL 10 ?_
 iterate 20 intro
 refine pp (PR.bd #[sva,svb,svc,svd,sve,svf,svg,svh,svi,svj,i6 (-1),nv,nv,i6 0,i6 0,nv,nv,i6 0,i6 0,i6 0,i6 0,nv,nv,nv]) (aa Tryz.zeroValue50 (fun g4=>sw 0 ?_))
 refine en (se (rg (p3 .mv .lss .mv (gFf (hp:=PR.mv) ?_))))
 refine gFf (hp:=PR.gtr) ?_
 refine p1 .por (en (cf (sk (nN (rg (p2 .lw .mv (ce (fun _ _ h=>hK.mke h.m.below) (fun nr ny vh=>?_))))))))
 refine os 0 (fun onr cnr=>?_)
 refine os 1 (fun ony cny=>?_)
 refine os 2 (fun ovh cvh=>?_)
 refine p5 .mv .ext .ext .ext .ext (aa Tryz.zeroValue36 (fun g5=>aa Tryz.zeroValue39 (fun g6=>sw 1 ?_)))
 refine sw 0 ?_
 refine p2 .as .as (en (se (r2 .mv .nei (cf (sk (nN (rg (p1 .fa (pp (PR.ls [sva,svb,svc,svd,sve,svf,svg,svh,svi,svj,i6 (-1)]) (ce (fun _ _ h=>spnames (Z:=zE) rootT ⟨⟨h.s 3,h.s 4,by decide,by decide⟩,⟨h.s 5,h.s 6,by decide,by decide⟩,⟨h.s 7,h.s 8,by decide,by decide⟩,⟨h.s 9,h.s 10,by decide,by decide⟩,⟨h.s 11,h.s 12,by decide,by decide⟩⟩ (fun i _=>⟨by show 0<1000;decide,rfl,by show chkS []=0;decide⟩)) (fun sna snb snc snd sne snf sng snh sni snj vn=>?_)))))))))))
 refine osL 11 ?_
 iterate 22 intro
 refine rc 10 0 [] (hn:=by rw[nmE];rfl) (hx:=by rw[nmE];rfl) (h:=?_)
 refine p4 .mv .ext .ext .ext (aa Tryz.zeroValue31 (fun g7=>sw 0 ?_))
 refine p2 .as .as (en (rg (p2 .lw .fa (sc 3 (cs:=#[sna,snb,snc,snd,sne,snf,sng,snh,sni,snj,i6 (-1),nv,nv,i6 0,i6 0,nv,nv,i6 0,i6 0,i6 0,i6 0,nv,nv,nv]) ?_))))
 refine en (se (r2 .mv .nei (cf (sk ?_))))
 refine nN (se (rg (p1 .mv (pp (PR.lr) (p1 .gtr (en (cf (sk (nN (rg (p1 .lw (aa Tryz.zeroValue50 (fun g8=>sw 0 ?_)))))))))))))
 refine en (drS2 3 2 0 #[sna,snb,snc,snd,sne,snf,sng,snh,sni,snj,i6 (-1),nr,nv,i6 0,i6 0,nv,nv,i6 0,i6 0,i6 0,i6 0,nv,nv,nv] #[sna,snb,snc,snd,sne,snf,sng,snh,sni,snj,i6 (-1),nr,ny,i6 0,i6 0,nv,nv,i6 0,i6 0,i6 0,i6 0,nv,nv,nv] ?_ (h10:=by simp[onr]) (h11:=by simp[ony]))
 refine rg (p3 .lw .mv .lw (pp (PR.bd #[i6 0,i6 0,nv,nv,i6 3,i6 2,i6 1,i6 1,nv]) (ce (fun _ _ h=>vsave (D:=D) (q:=⟨sna,snb,snc,snd,sne,snf,sng,snh,sni,snj,nr,ny,nv,nv,nv,nv,nv⟩) (Z:=zE) (N:=1) (m:=0) (k:=0) (refs:=[]) (packs:=[]) (bxs:=[]) (ps:=[]) (hK.below h.m.below) ⟨⟨h.s 0,h.s 1,by decide,by decide⟩,⟨h.s 2,h.s 3,by decide,by decide⟩,⟨h.s 4,h.s 5,by decide,by decide⟩,⟨h.s 6,h.s 7,by decide,by decide⟩,⟨h.s 8,h.s 9,by decide,by decide⟩⟩ (h.s 11) (h.s 12) slN slN ⟨slN,slN,fun _ h=>(by cases h)⟩ (CapOk.nil) slN ⟨rfl,rfl,rfl,rfl,rfl,rfl,rfl,rfl⟩ (by decide) hk hB (by decide) hL hp) (fun wa wb wc wd we wf wg wh wi wj=>?_))))
 refine osL 10 ?_
 iterate 20 intro
 refine p3 .mv .ext .ext (sw 0 ?_)
 refine p1 .as (en (se (r2 .mv .nei (cf (sk (nN (rg (p2 .lw .mv (sw 5 ?_)))))))))
 exact p2 .as .as (en (rt (et [0,1,2,3,4,5,6,7,8,9,21,22,23])))
end
theorem bwd {w0:World}{M0:MT}{R0:List Rw}{ad:Option Addr}{nn cc:Nat}:RM 133 #[.slice ad nn cc] w0 M0 R0 (A:=Nat) (fun _=>True) (fun q=>.func (.func 193) #[] #[pt q]) (fun q=>(q,isB 48 #[.slice ad nn cc])::M0) (fun _=>R0):=by
 refine enterM Tryz.func133 ?_
 refine rg (b1 (fun g0=>?_))
 exact p1 .as (en (rg (pp PR.mk (p1 .as (en (rt (kL [(2,.func (.func 193) #[] #[pt g0])] (rm g0 trivial su))))))))
theorem rfall {w0:World}{M0:MT}{R0:List Rw}{ad:Option Addr}{nn cc:Nat}:RM 74 #[.slice ad nn cc] w0 M0 R0 (A:=Nat) (fun _=>True) (fun q=>.func (.func 132) #[] #[pt q]) (fun q=>(q,isB 48 #[.slice ad nn cc])::M0) (fun _=>R0):=by
 refine enterM Tryz.func74 ?_
 refine rg (b1 (fun g0=>?_))
 exact p1 .as (en (rg (pp PR.mk (p1 .as (en (rt (kL [(2,.func (.func 132) #[] #[pt g0])] (rm g0 trivial su))))))))
theorem txs_last (l:List (List UInt8))(s:List UInt8):(txs (l ++ [s]))[l.length*1]?=some (sv s):=by
 unfold txs
 rw[Nat.mul_one,List.getElem?_map,List.getElem?_append_right (Nat.le_refl _),Nat.sub_self]
 rfl
theorem bwd1 {w0:World}{l gB:Nat}{M:MT}{R:List Rw}{v:Value}{ns:List (List UInt8)}{s:List UInt8}{A:Type}{I:A->Prop}{MM:A->MT}{RR:A->List Rw}(hn:ns.length<2^36)(hy:RY l [i6 (ns.length:Int),sv s] w0 ((gB,isB 48 #[v])::M) (⟨v,9,1,ns.length+1,txs (ns ++ [s])⟩::R) I (fun _=>false) MM RR)(w:World)(hw:MR w0 ((gB,isB 48 #[v])::M) (⟨v,9,1,ns.length+1,txs (ns ++ [s])⟩::R) w):Calls Tryz.prog 193 #[.func (.yield l) #[] #[],pt gB] w fun e w'=>(∃ u,e = .returned u) ∧ ∃ x,I x/\MR w0 (MM x) (RR x) w':=by
 revert w hw
 refine enterM Tryz.func193 ?_
 refine rg (p1 .ld (pp (PR.lr) ?_))
 refine pp (PR.sb (ns.length:Int)) (p1 .as (en (bl (lr 1 (un (se (r2 .mv .geq (ct (hb:=(by simp)) (sk (nN (se (bl (rgY ?_)))))))))))))
 refine yP [_,_,_,_,_,_] [_,_] ?_
 refine p4 .mv .mv .ld .mv (pp (PR.ix (i:=ns.length)) (pp (PR.lp (v2:=sv s) (txs_last ns s)) (en0 (yk hy (fun q2 hq2=>?_)))))
 refine yE ?_
 exact p1 .not (en (ct (hb:=rfl) (rt (bR (nR (nR (bR (e0 (fun u w h=>⟨⟨u,rfl⟩,q2,hq2,h⟩)))))))))
theorem RY.conv {l:Nat}{vs:List Value}{w0:World}{M M2:MT}{R:List Rw}{A:Type}{I:A->Prop}{B:A->Bool}{MM MM2:A->MT}{RR:A->List Rw}(h:RY l vs w0 M R I B MM RR)(hM:M.Perm M2)(hM2:∀ x,(MM2 x).Perm (MM x)):RY l vs w0 M2 R I B MM2 RR:=fun w hw=>by
 obtain⟨fn,tmps,assign,body,h1,h2⟩:=h w (hw.perm hM)
 refine⟨fn,tmps,assign,body,h1,RoundIn.mono h2 ?_⟩
 rintro e w' ⟨b,h3,x,h4,h5,h6⟩
 exact⟨b,h3,x,h4,h5,h6.perm (hM2 x)⟩
theorem rfall1 {w0:World}{l gN nn cc:Nat}{ad:Option Addr}{M:MT}{R:List Rw}{ns:List (List UInt8)}{t:List UInt8}{A:Type}{I:A->Prop}{MM:A->MT}{RR:A->List Rw}(ht:t.length=8)(hdg:∀ i,i<8->48<=(bt t i).toNat/\(bt t i).toNat<=57)(hn:ns.length<2^36)(hy:∀ Mx,RY l [sv (rootT++t)] w0 (((gN,isB 48 #[.slice ad nn cc])::M)++Mx) (⟨.slice ad nn cc,9,1,ns.length+1,txs (ns ++ [rootT++t])⟩::R) I (fun _=>false) (fun x=>MM x++Mx) RR)(w:World)(hw:MR w0 ((gN,isB 48 #[.slice ad nn cc])::M) (⟨.slice ad nn cc,9,1,ns.length+1,txs (ns ++ [rootT++t])⟩::R) w):Calls Tryz.prog 132 #[.func (.yield l) #[] #[],pt gN] w fun e w'=>(∃ u,e = .returned u) ∧ ∃ x,I x/\MR w0 (MM x) (RR x) w':=by
 revert w hw
 refine enterRM Tryz.func132 ?_
 refine rg (b1 (fun g0=>?_))
 refine en (rg (p1 .ld (cm (bwd) (fun q _=>?_))))
 refine en (bl (rfR2 [(q,isB 48 #[.slice ad nn cc])] ((g0,isB 205 #[.func (.yield l) #[] #[]])::(gN,isB 48 #[.slice ad nn cc])::M) (Y:=A) I (fun y=>(q,isB 48 #[.slice ad nn cc])::(g0,isB 205 #[.func (.yield l) #[] #[]])::MM y) RR (hc:=fun l2 dd rc hr0 hp0 hY w hw=>bwd1 (M:=Lp l2 rc::Df dd::(g0,isB 205 #[.func (.yield l) #[] #[]])::(gN,isB 48 #[.slice ad nn cc])::M) (I:=I) (MM:=fun y=>Lq l2 rc::Df dd::(q,isB 48 #[.slice ad nn cc])::(g0,isB 205 #[.func (.yield l) #[] #[]])::MM y) (RR:=RR) hn (fun w2 hw2=>hY _ _ _ _ _ 1 rfl ?_ w2 hw2) w hw) (h:=fun dd y hJ=>?_)))
 ·skip
  refine wRi ?_
  refine rgI0 ?_
  refine p1 .as (en0 (nN (bgI 1 rfl hr0 ?_)))
  refine blI ?_
  refine rgYI ?_
  refine yP [_,_,_,_,_] [_,_,_] ?_
  refine p1 .mv (cl (fun _ _ _=>rroot ht hdg) (p1 .mv (gTt (hp:=PR.ld) ?_)))
  refine gTt (hp:=PR.mv) ?_
  refine en0 (ykT ((hy [(q,isB 48 #[.slice ad nn cc]),(l2,isO (.loop (busyR rc))),Df dd,(g0,isB 205 #[.func (.yield l) #[] #[]])]).conv (M2:=(q,isB 48 #[.slice ad nn cc])::(l2,isO (.loop (busyR rc)))::Df dd::(g0,isB 205 #[.func (.yield l) #[] #[]])::(gN,isB 48 #[.slice ad nn cc])::M) (MM2:=fun x=>(q,isB 48 #[.slice ad nn cc])::(l2,isO (.loop (busyR rc)))::Df dd::(g0,isB 205 #[.func (.yield l) #[] #[]])::MM x) List.perm_append_comm (fun _=>(List.perm_append_comm (l₁:=MM _) (l₂:=[_,_,_,_])).symm)) (fun x hx=>?_))
  refine yE ?_
  refine gTt (hp:=PR.not) ?_
  refine p1 .pand (en (ctI ?_ (hb:=rfl)))
  refine rtI ?_
  refine bR ?_
  exact rrI 1 rfl (fun w h=>⟨x,hx,rfl,h.perm (perm3 _ _ _ _).symm⟩)
 ·skip
  refine bR ?_
  exact mo 0 (e0 (fun u w h=>⟨⟨u,rfl⟩,y,hJ,h.sub ((List.sublist_cons_self _ _).trans ((List.sublist_cons_self _ _).trans (List.sublist_cons_self _ _))) (.refl _)⟩))
section
attribute [local irreducible] sumS rtObj
theorem cln_sh {n:Nat}{xs:List Value}{v:Value}{w:World}(hV:Sl w v 33 n xs)(h1:∀ u∈xs,u.oneCell'=true)(hn:n<2^36):RT 30 #[v] w (.row 71 33 n xs fun v=>.ret v):=cln hV h1 Tryz.func30
theorem KyD.s3_one {D:KyD}(h:KyOk D):∀ u∈D.s3,u.oneCell'=true:=fun u hu=>by
 rcases List.mem_append.1 hu with hu | hu <;> exact h.sh1 u (List.mem_of_mem_drop (List.mem_of_mem_take hu))
theorem rloadY {D:KyD}{w0:World}{u0 v0 u1 v1 u2 v2 u3 v3 u4 v4 u:Value}{Z:Nat->Shf}{N:Int}{nm t da:List UInt8}{p:PkS}{ns:List (List UInt8)}(hK:EnvK D w0)(hS:StoIn w0 u0 v0 u1 v1 u2 v2 u3 v3 u4 v4 (Z 0) (Z 1) (Z 2) (Z 3) (Z 4))(hU:Sl w0 u 33 3 D.s3)(hz:∀ i,i<5->NmOk (Z i))(hB:∀ i,i<5->ShB (Z i))(hf:∀ i,i<5->(Z i).fates = [])(hT:∀ i,i<5->toldS (Z i) (rootT++t)=(da,0))(hp:∀ i,i<5->PutOk (Z i) (rootT++t) da)(hnm:nmA Z rootT=ns ++ [(rootT++t)])(hns:ns.length<2^36)(ht:t.length=8)(hdg:∀ i,i<8->48<=(bt t i).toNat/\(bt t i).toNat<=57)(hln:1<=(rootT++t).length/\(rootT++t).length<=100)(hld:da.length<=65536)(hop:∀ {w:World} {u:Value},EnvK D w->Sl w u 33 3 D.s3->RT 76 #[sv (rootT++t),sv da,u] w (kyK D fun a b=>rtK N nm p fun c d e=>.ret (.agg (votC N a b c d e).toArray))):RT 28 #[.agg #[u0,v0,u1,v1,u2,v2,u3,v3,u4,v4,i6 (-1)],u] w0 (stZ (pZ Z (rootT++t) (fun _=>da)) fun a b c d e f g h i j=>kyK D fun r k=>rtK N nm p fun x y z=>.ret (.tuple #[.agg #[a,b,c,d,e,f,g,h,i,j,i6 (-1)],.agg #[r],.agg #[k],.agg (rootX N x y z).toArray,i6 0])):=by
 refine enterR Tryz.func28 ?_
 obtain⟨h0,h1,h2,h3,h4,h5,h6,h7,h8,h9⟩:=hS.one
 obtain⟨ua,uc,rfl⟩:=hU.len
 refine rg (ba (fun g0=>?_))
 refine b1 (fun g1=>?_)
 refine aa Tryz.zeroValue31 (fun g2=>aa Tryz.zeroValue36 (fun g3=>aa Tryz.zeroValue39 (fun g4=>aa Tryz.zeroValue46 (fun g5=>a1 Tryz.zeroValue52 (fun g6=>?_)))))
 refine en (rg (p1 .ld (ce (fun _ _ h=>cln_sh (hU.below h.m.below) (KyD.s3_one hK.ok) (by decide)) (fun vs=>?_))))
 refine os 0 (fun ovs cvs=>?_)
 refine s1 5 (cs:=#[vs]) ?_
 refine en (se (rg (p1 .ld (cl (fun _ _ h=>hK.join h.m.below (h.s 0)) (p3 .mv .ext .ext (aa Tryz.zeroValue23 (fun g7=>sw 0 (h1:=cells8_one _) (hV:=by rw[cells8_size,hK.ok.k]) ?_)))))))
 refine p1 .as (en (r2 .mv .nei (cf (sk (nN (rg (p1 .lw (ce (fun _ _ h=>spnames rootT (hS.below h.m.below) hz) (fun sa0 sb0 sa1 sb1 sa2 sb2 sa3 sb3 sa4 sb4 vn=>?_)))))))))
 refine osL 11 ?_
 iterate 22 intro
 refine rc 10 (ns.length+1) (txs (ns ++ [rootT++t])) (hn:=by rw[hnm];simp) (hx:=by rw[hnm]) (h:=?_)
 refine osl 10 (fun hvn=>?_)
 obtain⟨ad,nn,cc,rfl⟩:=hvn
 refine p4 .mv .ext .ext .ext (sw 7 ?_)
 refine p2 .as .as (en (se (r2 .mv .nei (cf (sk (nN (rg (a1 Tryz.zeroValue4 (fun g8=>?_)))))))))
 refine a1 Tryz.zeroValue4 (fun g9=>?_)
 refine s1 1 (cs:=#[.bool false]) ?_
 refine s1 0 (cs:=#[.bool false]) ?_
 refine en (se (rg (p1 .mv (cm (rfall) (fun gN _=>?_)))))
 refine en (bl (fr [] [10] ?_))
 refine rfR1 [(gN,isB 48 #[.slice ad nn cc])] [(g9,isB 4 #[.bool false]),(g8,isB 4 #[.bool false]),(g7,isB 23 (cells8 D.k)),(g6,isB 52 #[i6 0]),(g5,isB 46 #[i6 0,i6 0,nv,nv,i6 0,i6 0,i6 0,i6 0,nv]),(g4,isB 39 #[nv]),(g3,isB 36 #[nv]),(g2,isB 31 #[nv,nv,nv,nv,nv,nv,nv,nv,nv,nv,i6 0]),(g1,isB 51 #[vs]),(g0,isB 31 #[sa0,sb0,sa1,sb1,sa2,sb2,sa3,sb3,sa4,sb4,i6 (-1)])] (Y:=Nat->Value) (fun _=>True) (fun y=>[(g6,isB 52 #[i6 0]),(g5,isB 46 #[i6 N,i6 0,(y 12),(y 14),i6 3,i6 2,i6 1,i6 1,(y 15)]),(g4,isB 39 #[(y 11)]),(g3,isB 36 #[(y 10)]),(g2,isB 31 #[(y 0),(y 1),(y 2),(y 3),(y 4),(y 5),(y 6),(y 7),(y 8),(y 9),i6 (-1)])]) (fun y=>[⟨(y 0),73,4,(pZ Z (rootT++t) (fun _=>da) 0).objs.length,(obs (pZ Z (rootT++t) (fun _=>da) 0).objs)⟩,⟨(y 1),3,1,(pZ Z (rootT++t) (fun _=>da) 0).fates.length,(nts (pZ Z (rootT++t) (fun _=>da) 0).fates)⟩,⟨(y 2),73,4,(pZ Z (rootT++t) (fun _=>da) 1).objs.length,(obs (pZ Z (rootT++t) (fun _=>da) 1).objs)⟩,⟨(y 3),3,1,(pZ Z (rootT++t) (fun _=>da) 1).fates.length,(nts (pZ Z (rootT++t) (fun _=>da) 1).fates)⟩,⟨(y 4),73,4,(pZ Z (rootT++t) (fun _=>da) 2).objs.length,(obs (pZ Z (rootT++t) (fun _=>da) 2).objs)⟩,⟨(y 5),3,1,(pZ Z (rootT++t) (fun _=>da) 2).fates.length,(nts (pZ Z (rootT++t) (fun _=>da) 2).fates)⟩,⟨(y 6),73,4,(pZ Z (rootT++t) (fun _=>da) 3).objs.length,(obs (pZ Z (rootT++t) (fun _=>da) 3).objs)⟩,⟨(y 7),3,1,(pZ Z (rootT++t) (fun _=>da) 3).fates.length,(nts (pZ Z (rootT++t) (fun _=>da) 3).fates)⟩,⟨(y 8),73,4,(pZ Z (rootT++t) (fun _=>da) 4).objs.length,(obs (pZ Z (rootT++t) (fun _=>da) 4).objs)⟩,⟨(y 9),3,1,(pZ Z (rootT++t) (fun _=>da) 4).fates.length,(nts (pZ Z (rootT++t) (fun _=>da) 4).fates)⟩,⟨(y 10),106,33,1,D.ep⟩,⟨(y 11),23,32,1,(dgC D.k)⟩,⟨(y 12),88,5,1,(refC nm)⟩,⟨(y 13),158,3,p.pl.length,(plsC p.pl)⟩,⟨(y 14),118,2,1,[tx p.nm,y 13]⟩,⟨(y 15),161,34,0,[]⟩]) (hc:=fun l dd rc hr0 hp0 hY w hw=>rfall1 (M:=Lp l rc::Df dd :: [(g9,isB 4 #[.bool false]),(g8,isB 4 #[.bool false]),(g7,isB 23 (cells8 D.k)),(g6,isB 52 #[i6 0]),(g5,isB 46 #[i6 0,i6 0,nv,nv,i6 0,i6 0,i6 0,i6 0,nv]),(g4,isB 39 #[nv]),(g3,isB 36 #[nv]),(g2,isB 31 #[nv,nv,nv,nv,nv,nv,nv,nv,nv,nv,i6 0]),(g1,isB 51 #[vs]),(g0,isB 31 #[sa0,sb0,sa1,sb1,sa2,sb2,sa3,sb3,sa4,sb4,i6 (-1)])]) (R:=[⟨sa0,73,4,(Z 0).objs.length,(obs (Z 0).objs)⟩,⟨sb0,3,1,(Z 0).fates.length,(nts (Z 0).fates)⟩,⟨sa1,73,4,(Z 1).objs.length,(obs (Z 1).objs)⟩,⟨sb1,3,1,(Z 1).fates.length,(nts (Z 1).fates)⟩,⟨sa2,73,4,(Z 2).objs.length,(obs (Z 2).objs)⟩,⟨sb2,3,1,(Z 2).fates.length,(nts (Z 2).fates)⟩,⟨sa3,73,4,(Z 3).objs.length,(obs (Z 3).objs)⟩,⟨sb3,3,1,(Z 3).fates.length,(nts (Z 3).fates)⟩,⟨sa4,73,4,(Z 4).objs.length,(obs (Z 4).objs)⟩,⟨sb4,3,1,(Z 4).fates.length,(nts (Z 4).fates)⟩,⟨vs,71,33,3,D.s3⟩]) (A:=Nat->Value) (I:=fun _=>True) (MM:=fun y=>Lq l rc::Df dd :: [(g6,isB 52 #[i6 0]),(g5,isB 46 #[i6 N,i6 0,(y 12),(y 14),i6 3,i6 2,i6 1,i6 1,(y 15)]),(g4,isB 39 #[(y 11)]),(g3,isB 36 #[(y 10)]),(g2,isB 31 #[(y 0),(y 1),(y 2),(y 3),(y 4),(y 5),(y 6),(y 7),(y 8),(y 9),i6 (-1)])]) (RR:=fun y=>[⟨(y 0),73,4,(pZ Z (rootT++t) (fun _=>da) 0).objs.length,(obs (pZ Z (rootT++t) (fun _=>da) 0).objs)⟩,⟨(y 1),3,1,(pZ Z (rootT++t) (fun _=>da) 0).fates.length,(nts (pZ Z (rootT++t) (fun _=>da) 0).fates)⟩,⟨(y 2),73,4,(pZ Z (rootT++t) (fun _=>da) 1).objs.length,(obs (pZ Z (rootT++t) (fun _=>da) 1).objs)⟩,⟨(y 3),3,1,(pZ Z (rootT++t) (fun _=>da) 1).fates.length,(nts (pZ Z (rootT++t) (fun _=>da) 1).fates)⟩,⟨(y 4),73,4,(pZ Z (rootT++t) (fun _=>da) 2).objs.length,(obs (pZ Z (rootT++t) (fun _=>da) 2).objs)⟩,⟨(y 5),3,1,(pZ Z (rootT++t) (fun _=>da) 2).fates.length,(nts (pZ Z (rootT++t) (fun _=>da) 2).fates)⟩,⟨(y 6),73,4,(pZ Z (rootT++t) (fun _=>da) 3).objs.length,(obs (pZ Z (rootT++t) (fun _=>da) 3).objs)⟩,⟨(y 7),3,1,(pZ Z (rootT++t) (fun _=>da) 3).fates.length,(nts (pZ Z (rootT++t) (fun _=>da) 3).fates)⟩,⟨(y 8),73,4,(pZ Z (rootT++t) (fun _=>da) 4).objs.length,(obs (pZ Z (rootT++t) (fun _=>da) 4).objs)⟩,⟨(y 9),3,1,(pZ Z (rootT++t) (fun _=>da) 4).fates.length,(nts (pZ Z (rootT++t) (fun _=>da) 4).fates)⟩,⟨(y 10),106,33,1,D.ep⟩,⟨(y 11),23,32,1,(dgC D.k)⟩,⟨(y 12),88,5,1,(refC nm)⟩,⟨(y 13),158,3,p.pl.length,(plsC p.pl)⟩,⟨(y 14),118,2,1,[tx p.nm,y 13]⟩,⟨(y 15),161,34,0,[]⟩]) ht hdg hns (fun Mx w2 hw2=>hY _ _ _ _ 1 rfl ?_ w2 hw2) w hw) (h:=fun dd y hJ=>?_)
 ·skip
  refine wRi ?_
  refine rgI0 ?_
  refine p1 .as (en0 (nN (bgI 1 rfl hr0 ?_)))
  refine blI ?_
  refine rgI ?_
  refine p2 .lw .mv (ce (fun _ _ h=>spvote (Z:=Z) (d:=da) ⟨⟨h.s 1,h.s 2,(hp 0 (by decide)).ho,by rw[(hp 0 (by decide)).hf];decide⟩,⟨h.s 3,h.s 4,(hp 1 (by decide)).ho,by rw[(hp 1 (by decide)).hf];decide⟩,⟨h.s 5,h.s 6,(hp 2 (by decide)).ho,by rw[(hp 2 (by decide)).hf];decide⟩,⟨h.s 7,h.s 8,(hp 3 (by decide)).ho,by rw[(hp 3 (by decide)).hf];decide⟩,⟨h.s 9,h.s 10,(hp 4 (by decide)).ho,by rw[(hp 4 (by decide)).hf];decide⟩⟩ hln hB hf hT) (fun va0 vb0 va1 vb1 va2 vb2 va3 vb3 va4 vb4=>?_))
  refine osL 10 ?_
  iterate 20 intro
  refine p4 .mv .ext .ext .ext (aa Tryz.zeroValue31 (fun g10=>sw 0 ?_))
  refine p2 .as .as (en (rgI ?_))
  refine p1 .lw (sw 13 ?_)
  refine en (seI ?_)
  refine rgI ?_
  refine p2 .mv .nei (en (cfI ?_))
  refine skI ?_
  refine nN (rgI ?_)
  refine p3 .mv .mv .ld (ce (fun _ _ h=>hop (hK.below h.m.below) (h.s 21)) (fun ve vk vr vx vq vc=>?_))
  refine osL 6 ?_
  iterate 12 intro
  refine aa Tryz.zeroValue169 (fun g11=>sw 0 ?_)
  refine en (rgI ?_)
  refine p2 .ld .mv (gFf (hp:=PR.fa) ?_)
  refine gFf (hp:=PR.ld) ?_
  refine p1 .por (s1 5 (cs:=#[.bool false]) ?_)
  refine en (rgI ?_)
  refine p2 .fa .ld (en (ctI ?_))
  refine rgI ?_
  refine p3 .lw .mv .mv (ce (fun _ _ h=>spost (Z:=Z) ⟨⟨h.s 6,h.s 7,(hp 0 (by decide)).ho,by rw[(hp 0 (by decide)).hf];decide⟩,⟨h.s 8,h.s 9,(hp 1 (by decide)).ho,by rw[(hp 1 (by decide)).hf];decide⟩,⟨h.s 10,h.s 11,(hp 2 (by decide)).ho,by rw[(hp 2 (by decide)).hf];decide⟩,⟨h.s 12,h.s 13,(hp 3 (by decide)).ho,by rw[(hp 3 (by decide)).hf];decide⟩,⟨h.s 14,h.s 15,(hp 4 (by decide)).ho,by rw[(hp 4 (by decide)).hf];decide⟩⟩ hp hln hld) (fun ta0 tb0 ta1 tb1 ta2 tb2 ta3 tb3 ta4 tb4=>?_))
  refine osL 10 ?_
  iterate 20 intro
  refine p3 .mv .ext .ext (sw 14 ?_)
  refine en (drI [_,_,_,_,_,_,_,.any,.any,.any,.any,.any] [] [⟨7,_,_,_,0,.val (.agg #[ta0,tb0,ta1,tb1,ta2,tb2,ta3,tb3,ta4,tb4,i6 (-1)])⟩,⟨8,_,_,_,0,.val (.agg #[ve])⟩,⟨9,_,_,_,0,.val (.agg #[vk])⟩,⟨10,_,_,_,0,.val (.agg #[i6 N,i6 0,vr,vq,i6 3,i6 2,i6 1,i6 1,vc])⟩,⟨11,_,_,_,0,.val (i6 0)⟩] [12,11,10,9,8] [] ⟨rfl,rfl,rfl,rfl,rfl,trivial⟩ (fun Bs=>⟨kv (oP (PR.lw ez (mk' 14))),kv (oP (PR.fa ez)),kv (oP (PR.ls [ve] ed (mk' 0))),kv (oP (PR.fa ez)),kv (oP (PR.ls [vk] ed (mk' 0))),kv (oP (PR.fa ez)),kv (oP (PR.ls [i6 N,i6 0,vr,vq,i6 3,i6 2,i6 1,i6 1,vc] ed (mk' 0))),ks 0,ks 1,ks 2,ks 3,ks 4,trivial⟩) ?_)
  refine rtI (bR ?_)
  refine kR ((l,isO (.loop (busyR rc)))::(dd,isO (.deferred (some [])))::(g6,isB 52 #[i6 0])::(g5,isB 46 #[i6 N,i6 0,vr,vq,i6 3,i6 2,i6 1,i6 1,vc])::(g4,isB 39 #[vk])::(g3,isB 36 #[ve])::(g2,isB 31 #[ta0,tb0,ta1,tb1,ta2,tb2,ta3,tb3,ta4,tb4,i6 (-1)])::Mx) [⟨ta0,73,4,(pZ Z (rootT++t) (fun _=>da) 0).objs.length,(obs (pZ Z (rootT++t) (fun _=>da) 0).objs)⟩,⟨tb0,3,1,(pZ Z (rootT++t) (fun _=>da) 0).fates.length,(nts (pZ Z (rootT++t) (fun _=>da) 0).fates)⟩,⟨ta1,73,4,(pZ Z (rootT++t) (fun _=>da) 1).objs.length,(obs (pZ Z (rootT++t) (fun _=>da) 1).objs)⟩,⟨tb1,3,1,(pZ Z (rootT++t) (fun _=>da) 1).fates.length,(nts (pZ Z (rootT++t) (fun _=>da) 1).fates)⟩,⟨ta2,73,4,(pZ Z (rootT++t) (fun _=>da) 2).objs.length,(obs (pZ Z (rootT++t) (fun _=>da) 2).objs)⟩,⟨tb2,3,1,(pZ Z (rootT++t) (fun _=>da) 2).fates.length,(nts (pZ Z (rootT++t) (fun _=>da) 2).fates)⟩,⟨ta3,73,4,(pZ Z (rootT++t) (fun _=>da) 3).objs.length,(obs (pZ Z (rootT++t) (fun _=>da) 3).objs)⟩,⟨tb3,3,1,(pZ Z (rootT++t) (fun _=>da) 3).fates.length,(nts (pZ Z (rootT++t) (fun _=>da) 3).fates)⟩,⟨ta4,73,4,(pZ Z (rootT++t) (fun _=>da) 4).objs.length,(obs (pZ Z (rootT++t) (fun _=>da) 4).objs)⟩,⟨tb4,3,1,(pZ Z (rootT++t) (fun _=>da) 4).fates.length,(nts (pZ Z (rootT++t) (fun _=>da) 4).fates)⟩,⟨ve,106,33,1,D.ep⟩,⟨vk,23,32,1,(dgC D.k)⟩,⟨vr,88,5,1,(refC nm)⟩,⟨vx,158,3,p.pl.length,(plsC p.pl)⟩,⟨vq,118,2,1,[tx p.nm,vx]⟩,⟨vc,161,34,0,[]⟩] ?_
  refine fr [] [15,15,15,15,15,15,15,15,15,15,15,15,15,15,15,15] ?_
  exact rrI 0 rfl (fun w h=>⟨fun i=>([ta0,tb0,ta1,tb1,ta2,tb2,ta3,tb3,ta4,tb4,ve,vk,vr,vx,vq,vc]:List Value).getD i undef,trivial,rfl,h⟩)
 ·skip
  refine bR (nR ?_)
  exact mo 0 (et [0,1,2,3,4,5,6,7,8,9,10,11,12,13,14,15])
end
section
attribute [local irreducible] sumS rtObj
theorem vOpen {D:KyD}{w0:World}{u0 v0 u1 v1 u2 v2 u3 v3 u4 v4 u:Value}{Z:Nat->Shf}{N:Int}{nm t da:List UInt8}{p:PkS}{ns:List (List UInt8)}(hK:EnvK D w0)(hS:StoIn w0 u0 v0 u1 v1 u2 v2 u3 v3 u4 v4 (Z 0) (Z 1) (Z 2) (Z 3) (Z 4))(hU:Sl w0 u 33 3 D.s3)(hz:∀ i,i<5->NmOk (Z i))(hB:∀ i,i<5->ShB (Z i))(hf:∀ i,i<5->(Z i).fates = [])(hT:∀ i,i<5->toldS (Z i) (rootT++t)=(da,0))(hp:∀ i,i<5->PutOk (Z i) (rootT++t) da)(hnm:nmA Z rootT=ns ++ [(rootT++t)])(hns:ns.length<2^36)(ht:t.length=8)(hdg:∀ i,i<8->48<=(bt t i).toNat/\(bt t i).toNat<=57)(hln:1<=(rootT++t).length/\(rootT++t).length<=100)(hld:da.length<=65536)(hop:∀ {w:World} {u:Value},EnvK D w->Sl w u 33 3 D.s3->RT 76 #[sv (rootT++t),sv da,u] w (kyK D fun a b=>rtK N nm p fun c d e=>.ret (.agg (votC N a b c d e).toArray))):RT 14 #[.agg #[u0,v0,u1,v1,u2,v2,u3,v3,u4,v4,i6 (-1)],u] w0 (stZ (pZ Z (rootT++t) (fun _=>da)) fun a b c d e f g h i j=>kyK D fun r y=>rtK N nm p fun x z t=>.ret (.tuple #[.agg (vltC ⟨a,b,c,d,e,f,g,h,i,j,r,y,x,z,t,nv,nv⟩ N).toArray,i6 0])):=by
 refine enter Tryz.func14 ?_
 obtain⟨k0,k1,k2,k3,k4,k5,k6,k7,k8,k9⟩:=hS.one
 obtain⟨ua,uc,rfl⟩:=hU.len
 have hZ:∀ i,i<5->(Z i).objs.length<2^36/\(Z i).fates.length<2^36:=fun i hi=>⟨(hp i hi).ho,by rw[hf i hi];decide⟩
 refine rg (ba (fun g0=>?_))
 refine aa Tryz.zeroValue50 (fun g1=>p1 .as (en (rg (p1 .lw (ce (fun _ _ h=>cstore (hS.below h.m.below)) (fun sva svb svc svd sve svf svg svh svi svj=>?_))))))
 refine osL 10 ?_
 iterate 20 intro
 refine p1 .mv (ce (fun _ _ h=>cln_sh (hU.below h.m.below) (KyD.s3_one hK.ok) (by decide)) (fun vs=>?_))
 refine os 0 (fun ovs cvs=>?_)
 refine ce (fun _ _ h=>rloadY (Z:=Z) (t:=t) (da:=da) (ns:=ns) (N:=N) (nm:=nm) (p:=p) (hK.below h.m.below) ⟨⟨h.s 1,h.s 2,(hZ 0 (by decide)).1,(hZ 0 (by decide)).2⟩,⟨h.s 3,h.s 4,(hZ 1 (by decide)).1,(hZ 1 (by decide)).2⟩,⟨h.s 5,h.s 6,(hZ 2 (by decide)).1,(hZ 2 (by decide)).2⟩,⟨h.s 7,h.s 8,(hZ 3 (by decide)).1,(hZ 3 (by decide)).2⟩,⟨h.s 9,h.s 10,(hZ 4 (by decide)).1,(hZ 4 (by decide)).2⟩⟩ (h.s 0) hz hB hf hT hp hnm hns ht hdg hln hld hop) (fun wa wb wc wd we wf wg wh wi wj ve vk vr vx vq vc=>?_)
 refine osL 16 ?_
 iterate 32 intro
 refine p5 .mv .ext .ext .ext .ext (p1 .ext (aa Tryz.zeroValue31 (fun g2=>aa Tryz.zeroValue36 (fun g3=>aa Tryz.zeroValue39 (fun g4=>aa Tryz.zeroValue46 (fun g5=>sw 3 ?_))))))
 refine sw 2 ?_
 refine sw 1 ?_
 refine sw 0 ?_
 refine p1 .as (en (se (r2 .mv .nei (cf (sk (nN (rg (p4 .lw .lw .lw .lw (pp (PR.bd #[wa,wb,wc,wd,we,wf,wg,wh,wi,wj,i6 (-1),ve,vk,i6 N,i6 0,vr,vq,i6 3,i6 2,i6 1,i6 1,vc,nv,nv]) (sw 4 ?_))))))))))
 exact p1 .as (en (rt (et [0,1,2,3,4,5,6,7,8,9,10,11,12,13,14,15])))
theorem vlast0 {vr vp vc:Value}{N:Int}{s:List UInt8}{w:World}(hR:Sl w vr 5 0 [])(o_p:vp.oneCell'=true)(o_c:vc.oneCell'=true):RV 63 #[.agg (rootX N vr vp vc).toArray,sv s] w (.tuple #[.agg #[.string ⟨#[]⟩,i6 0,i6 0,.string ⟨#[]⟩,i6 0],.bool false]):=by
 refine enter Tryz.func63 ?_
 have o_r:=hR.one
 refine rg (ba (fun g0=>?_))
 refine aa Tryz.zeroValue88 (fun g1=>p1 .as (en (rg (aa Tryz.zeroValue88 (fun g2=>en (r1 .as (se (rg ?_))))))))
 refine p2 .fa .ld (pp (PR.lr) (p1 .mv (en (bl (lr 1 (un (r1 .lss (se (cf (xt (nX (nX (bH (nN (rg (p2 .lw .mv (sw 1 ?_)))))))))))))))))
 exact p1 .as (en (rt qv))
end
section
section
variable {G:Kn}{x:Operand}{g o n c:Nat}{t:TypeId}{cs:Array Value}{l:List UInt8}
theorem PR.bP (l:List UInt8)(hx:EV G x (.slice (some ⟨g,o,none⟩) n c):=by exact ev)(hm:MB G g t cs:=by exact mb)(hl:l.length=n)(hc:∀ j,j<l.length->cs[o+j]?=some (.int .u8 ((bt l j).toNat:Int))):PR Tryz.prog G (.convert 75 9 x) (sv l):=fun a w op ho hg=>by
 have h1:=run_strOf (w:=w) (g:=g) (off:=o) (cap:=c) hl (fun j hj=>by rw[(hm a w hg).cell];exact hc j hj)
 unfold execOp
 simp only[ho,hx a w hg,Sem.run_bind,h1,Result.andThen_ok,Sem.run_pure]
end
abbrev hibm :List UInt8:=[104,105,98,109]
def manT (N:Int)(nm:List UInt8):List (List UInt8):=[hibm,[109],Lib.itoa N,Lib.itoa 0,putS 0,Lib.itoa 1,Lib.itoa 1,ofD nm,[],[],List.replicate 32 0]
def manB (N:Int)(nm:List UInt8):List UInt8:=rowS (manT N nm)
theorem zb32 (j:Nat)(hj:j<(List.replicate 32 (0:UInt8)).length)(N:Int)(v:Value):(snapL N v).toArray[9+j]?=some (.int .u8 ((bt (List.replicate 32 (0:UInt8)) j).toNat:Int)):=by
 have h:snapL N v = [.string ⟨[109].toArray⟩,i6 N,i6 0,.int .u64 0,i6 1,i6 1,v,nv,nv]++List.replicate 32 (.int .u8 0):=rfl
 have hj2:j<32:=by simpa using hj
 rw[List.getElem?_toArray,h,List.getElem?_append_right (by show 9<=9+j;omega),show 9+j - [Value.string ⟨[109].toArray⟩,i6 N,i6 0,.int .u64 0,i6 1,i6 1,v,nv,nv].length=j from Nat.add_sub_cancel_left 9 j,List.getElem?_replicate,if_pos hj2]
 rw[show bt (List.replicate 32 (0:UInt8)) j=0 from by unfold bt;rw[List.getD_eq_getElem?_getD,List.getElem?_replicate];split <;> rfl]
 rfl
theorem manT_len {N:Int}(hN:1<=N/\N<=100000000)(nm:List UInt8):(manT N nm).flatten.length+10*(manT N nm).length<=140737488355328:=by
 have h1:=Lib.itoa_length_le N (by omega) (by omega)
 have h2:=Lib.itoa_length_le 0 (by omega) (by omega)
 have h3:=Lib.itoa_length_le 1 (by omega) (by omega)
 simp only[manT,List.flatten_cons,List.flatten_nil,List.length_append,List.length_nil,ofD_len,putS_len,List.length_replicate,List.length_cons];omega
theorem mbytes {v:Value}{nm:List UInt8}{N:Int}{w:World}(hE:Env w)(hV:Sl w v 1 1 (txs [nm]))(hv:v.oneCell'=true)(hok:NmsOk [nm])(hN:1<=N/\N<=100000000):RV 23 #[.agg (snapL N v).toArray] w (.tuple #[sv (manB N nm),i6 0]):=by
 refine enter Tryz.func23 ?_
 have hok1:=hok.ok nm (by simp)
 refine rg (ba (fun g0=>?_))
 refine p2 .as .as (en (se (rg (p1 .lw (cl (fun _ _ h=>mcheck (l:=[nm]) (hE.below h.m.below) (hV.below h.m.below) hv hok hN) (p1 .as (en (r2 .mv .nei (cf (sk (nN (dr [_,_,_,_,_,_,_,_,_,_,_,_,_,_,_,_,_,.tel [9] (.row 9 1 7 (txs [hibm,[109],Lib.itoa N,Lib.itoa 0,putS 0,Lib.itoa 1,Lib.itoa 1]) fun v=>.ret v),.tel [9] (.row 9 1 7 (txs [hibm,[109],Lib.itoa N,Lib.itoa 0,putS 0,Lib.itoa 1,Lib.itoa 1]) fun v=>.ret v)] [] [] [] [5] trivial (fun Bs=>⟨kv (oP (PR.fa ez)),kv (oP (PR.ld ed (mk' 0))),kv (oP (PR.fa ez)),kv (oP (PR.ld ed (mk' 0))),kv (oC (fun _ _ h=>mdec (n:=N) (hE.below h.low) (by omega)) (.cons ed .nil)),kv (oP (PR.fa ez)),kv (oP (PR.ld ed (mk' 0))),kv (oC (fun _ _ h=>mdec64 (n:=0) (hE.below h.low) (by omega)) (.cons ed .nil)),kv (oP (PR.fa ez)),kv (oP (PR.ld ed (mk' 0))),kv (oC (fun _ _ h=>hE.put _) (.cons ed (.cons EV.k .nil))),kv (oP (PR.fa ez)),kv (oP (PR.ld ed (mk' 0))),kv (oC (fun _ _ h=>mdec (n:=1) (hE.below h.low) (by omega)) (.cons ed .nil)),kv (oP (PR.fa ez)),kv (oP (PR.ld ed (mk' 0))),kv (oC (fun _ _ h=>mdec (n:=1) (hE.below h.low) (by omega)) (.cons ed .nil)),kv (oS (txs [hibm,[109],Lib.itoa N,Lib.itoa 0,putS 0,Lib.itoa 1,Lib.itoa 1]).toArray (fun _ _ h=>h.size) (.cons EV.k (.cons ed (.cons ed (.cons ed (.cons ed (.cons ed (.cons ed .nil)))))))),kv (oM .assign (.inr rfl)),trivial⟩) (fun vt=>?_)))))))))))))
 refine os 0 (fun ot _=>?_)
 refine se (rg (p1 .fa (pp (PR.ls [v,nv,nv]) (p1 .mv (en (bl (lr 4 (kL [(1,pt g0),(2,.string ⟨#[]⟩),(3,i6 0),(5,vt),(37,.agg #[v,nv,nv]),(38,i6 0)] (un (r1 .lss (se ?_)))))))))))
 refine ct (sk (nN (se (bl (rg (pp (PR.xc 0) (p1 .as (en (rg (aa Tryz.zeroValue140 (fun g1=>en (se (nr 5 1 ?_)))))))))))))
 refine rg (p1 .mv (pp PR.lr (p1 .mv (en (bl (lr 2 (kL [(1,pt g0),(2,.string ⟨#[]⟩),(3,i6 0),(5,vt),(37,.agg #[v,nv,nv]),(38,i6 0),(8,pt g1),(41,v),(42,i6 ((1:Nat):Int)),(43,i6 0)] (un (r1 .lss (se (ct (sk ?_))))))))))))
 refine nN (se (bl (rg (pp (PR.ix (i:=0)) (pp (PR.lp (v2:=sv nm) rfl) (p1 .as (en (rg (p1 .mv (cl (fun _ _ h=>hE.hof nm _ (by unfold maxLen;omega)) (p3 .mv .ext .ext (aa Tryz.zeroValue65 (fun g2=>sw 0 (h1:=cells8_one _) (hV:=by rw[cells8_size,ofD_len]) ?_)))))))))))))
 refine p1 .as (en (rg0 (pp PR.sA (fr [1,0] [] ?_))))
 refine cm (bwr (l:=[]) (s:=ofD nm) (.inl rfl) (ofD_len nm) (by decide)) (fun vb _=>?_)
 refine os 0 (fun ob _=>?_)
 refine en0 (bN (nN ?_))
 refine rg0 (pp (PR.ad 1) (p1 .mv (en0 (nN (kL [(1,pt g0),(2,.string ⟨#[]⟩),(3,i6 0),(5,vt),(37,.agg #[v,nv,nv]),(38,i6 0),(8,pt g1),(41,v),(42,i6 ((1:Nat):Int)),(43,i6 1)] (un (r1 .lss (se (cf (xt (nX (nX (bH (nN (rg0 (p1 .mv (fr [0] [] ?_)))))))))))))))))
 rw[List.nil_append]
 refine bst (l:=ofD nm) ?_
 refine bs #[sv (ofD nm)] (fun g3=>?_)
 refine ap 0 (fun v0=>?_)
 refine p1 .as (en0 (bN (nN (rg0 (pp (PR.ad 1) (p1 .mv (en0 (nN (kL [(1,pt g0),(2,.string ⟨#[]⟩),(3,i6 0),(5,v0),(37,.agg #[v,nv,nv]),(38,i6 1)] (un (r1 .lss (se ?_))))))))))))
 refine ct (sk (nN (se (bl (rg (pp (PR.xc 1) (p1 .as (en (rg (aa Tryz.zeroValue140 (fun g4=>en (se (nr 5 1 ?_)))))))))))))
 refine rg (p1 .mv ?_)
 refine p1 .l0 (p1 .mv (en (bl (lr 1 (kL [(1,pt g0),(2,.string ⟨#[]⟩),(3,i6 0),(5,v0),(37,.agg #[v,nv,nv]),(38,i6 1),(8,pt g4),(41,nv),(42,i6 ((0:Nat):Int)),(43,i6 0)] (un (r1 .lss (se (cf (xt (nX (nX (bH (nN (rg0 (p1 .mv (fr [0] [] ?_)))))))))))))))))
 refine bst (l:=[]) ?_ (hp:=.inl rfl)
 refine bs #[.string ⟨List.toArray []⟩] (fun g5=>?_)
 refine ap 0 (fun v1=>?_)
 refine p1 .as (en0 (bN (nN (rg0 (pp (PR.ad 2) (p1 .mv (en0 (nN (kL [(1,pt g0),(2,.string ⟨#[]⟩),(3,i6 0),(5,v1),(37,.agg #[v,nv,nv]),(38,i6 2)] (un (r1 .lss (se ?_))))))))))))
 refine ct (sk (nN (se (bl (rg (pp (PR.xc 2) (p1 .as (en (rg (aa Tryz.zeroValue140 (fun g6=>en (se (nr 5 1 ?_)))))))))))))
 refine rg (p1 .mv ?_)
 refine p1 .l0 (p1 .mv (en (bl (lr 1 (kL [(1,pt g0),(2,.string ⟨#[]⟩),(3,i6 0),(5,v1),(37,.agg #[v,nv,nv]),(38,i6 2),(8,pt g6),(41,nv),(42,i6 ((0:Nat):Int)),(43,i6 0)] (un (r1 .lss (se (cf (xt (nX (nX (bH (nN (rg0 (p1 .mv (fr [0] [] ?_)))))))))))))))))
 refine bst (l:=[]) ?_ (hp:=.inl rfl)
 refine bs #[.string ⟨List.toArray []⟩] (fun g7=>?_)
 refine ap 0 (fun v2=>?_)
 refine p1 .as (en0 (bN (nN (rg0 (pp (PR.ad 3) ?_)))))
 refine p1 .mv (en0 (nN (kL [(1,pt g0),(2,.string ⟨#[]⟩),(3,i6 0),(5,v2),(37,.agg #[v,nv,nv]),(38,i6 3)] (un (r1 .lss (se (cf (xt (nX (nX (bH (nN (rg (p2 .mv .fa (pp PR.sA (pp (PR.bP (List.replicate 32 0) (hl:=rfl) (hc:=fun j hj=>zb32 j hj N v)) (bs #[sv (List.replicate 32 0)] (fun g8=>?_))))))))))))))))))
 refine ap 0 (fun v3=>?_)
 refine rc 0 11 (txs (manT N nm)) (hn:=rfl) (hx:=rfl) (h:=?_)
 exact cl (fun _ _ h=>nrowK (l:=manT N nm) (h.s 0) (manT_len hN nm) (by show 11<2^44;decide)) (p2 .as .as (en (rt qv)))
end
theorem vmay {D:KyD}{w:World}{q:Vv}{N:Int}{Z:Nat->Shf}{bxs:List Bx}{ps:List (List UInt8)}{vs:Value}{s x:List UInt8}(hV:VIn D w q Z [] bxs ps)(hz:PksIn w q.z [])(hS:Sl w vs 1 1 (txs [x]))(hx:0<=waitX bxs x):RV 24 #[.agg (vltC q N).toArray,.agg (snapL 1 vs).toArray,sv s] w (.tuple #[.bool false,i6 0]):=by
 refine enter Tryz.func24 ?_
 obtain⟨k0,k1,k2,k3,k4,k5,k6,k7,k8,k9⟩:=hV.s.one
 have o_r:=hV.r.one
 have o_y:=hV.y.one
 have o_x:=hV.x.one
 have o_t:=hV.t.one
 have o_pd:=hV.pd.one
 have o_pn:=hV.pn.one
 have o_z:=hz.z.one
 have o_s:=hS.one
 refine rg (ba (fun g0=>?_))
 refine ba (fun g1=>?_)
 refine p2 .as .as (en (kM 1 #[q.a,q.b,q.c,q.d,q.e,q.f,q.g,q.h,q.i,q.j,i6 (-1),q.r,q.y,i6 N,i6 0,q.x,q.z,i6 3,i6 2,i6 1,i6 1,q.t,q.pd,q.pn] ?_))
 refine rg (p1 .fa (pp (PR.ls [i6 N,i6 0,q.x,q.z,i6 3,i6 2,i6 1,i6 1,q.t]) (p2 .fa .ld (cl (fun _ _ h=>vlast0 (hV.x.below h.m.below) o_z o_t) (p3 .mv .ext .ext (aa Tryz.zeroValue88 (fun g2=>sw 0 ?_)))))))
 refine p1 .as (en (se (rg (p2 .mv .mv (gTt (b:=false) (v:=.bool false) (hp:=fun _ _ _ _ hg=>Bool.noConfusion hg.2) ?_)))))
 refine gTt (b:=false) (v:=.bool false) (hp:=fun _ _ _ _ hg=>Bool.noConfusion hg.2) ?_
 refine gTt (b:=false) (v:=.bool false) (hp:=fun _ _ _ _ hg=>Bool.noConfusion hg.2) ?_
 refine gTt (b:=false) (v:=.bool false) (hp:=fun _ _ _ _ hg=>Bool.noConfusion hg.2) ?_
 refine gTt (b:=false) (v:=.bool false) (hp:=fun _ _ _ _ hg=>Bool.noConfusion hg.2) ?_
 refine p2 .pand .mv (gTt (b:=false) (v:=.bool false) (hp:=fun _ _ _ _ hg=>Bool.noConfusion hg.2) ?_)
 refine gTt (b:=false) (v:=.bool false) (hp:=fun _ _ _ _ hg=>Bool.noConfusion hg.2) ?_
 refine gTt (b:=false) (v:=.bool false) (hp:=fun _ _ _ _ hg=>Bool.noConfusion hg.2) ?_
 refine gTt (b:=false) (v:=.bool false) (hp:=fun _ _ _ _ hg=>Bool.noConfusion hg.2) ?_
 refine p1 .pand (en (cf (sk ?_)))
 refine nN (se (rg (p4 .fa .ld .fa .ld (pp (PR.ad 1) (p1 .nei (en (cf (sk (nN (se (rg (p1 .lw (ce (fun _ _ h=>mnames (x:=x) (hS.below h.m.below) o_s) (fun vm=>?_))))))))))))))
 refine os 0 (fun ovm cvm=>?_)
 refine pp (PR.lr (n:=1)) (p1 .mv (en (bl (lr 2 (kL [(2,sv s),(3,pt g0),(4,pt g1),(6,.bool false),(7,i6 0),(41,vm),(42,i6 ((1:Nat):Int)),(43,i6 0)] (un (r1 .lss ?_)))))))
 refine se (ct (sk (nN (se (bl (rg (pp (PR.ix (i:=0) (n:=1)) (pp (PR.lp (v2:=sv x) rfl) (p1 .as (en (rg (p2 .lw .mv (cl (fun _ _ h=>vhas (packs:=[]) (s:=x) (hV.below h.m.below) (hz.below h.m.below)) ?_)))))))))))))
 refine p1 .not (en (cf (hb:=(by simp[hx])) (sk (bN (nN (rg0 (pp (PR.ad 1) (p1 .mv (en0 (nN (kL [(2,sv s),(3,pt g0),(4,pt g1),(6,.bool false),(7,i6 0),(41,vm),(42,i6 ((1:Nat):Int)),(43,i6 1)] (un (r1 .lss (se ?_))))))))))))))
 exact cf (xt (nX (nX (bH (nN (se (rg (p3 .fa .fq .ld (pp (PR.lr (hs:=SL.p hV.x)) (p1 .geq (en (cf (sk (nN (r2 .as .as (rt qv))))))))))))))))
end Go.Proofs.YtdjholkjkbihmaaGreatDoor
