/- Laws and walks of TopNeverOther. -/
import Derived.Test.YtdjholkjkbihmaaGreatDoorF25
namespace Go.Proofs.YtdjholkjkbihmaaGreatDoor
open Go.RowKit
set_option maxRecDepth 100000
set_option maxHeartbeats 4000000
section
def plOf (p:Pl):PlS:=⟨p.1,(p.2.1:Int),(p.2.2:Int)⟩
def kyD (k no:List UInt8):KyD where
 k:=k
 no:=no
 ep:=ep1 (keyedS k checkT)
 sh:=(shL (shV k no)).map cb
 rb:=rowS [keyedS k checkT,[]]
 bk:=keyedS k boxesT
 idk:=keyedS k namesT
 nn:=nonceS
 sl:=fun n h d=>sealS (keyedS k boxesT) (nonceS n) h d
 nm:=fun d=>hexS (keyedS (keyedS k namesT) d)
 bx:=bxS k
 op:=opS k
 mkp:=bytesS
 pl:=fun l=>(placesS l).map plOf
 pnm:=fun b=>[112,97,99,107,47]++hexS (sumS b)
 tk:=takeS
attribute [local irreducible] sumS keyedS sealS bxS opS bytesS takeS rowS packS hexS
theorem pl_C (l:List Pl):plsC (l.map plOf)=l.flatMap placeC:=by
 induction l with
 | nil=>rfl
 | cons a l ih=>
  show plC (plOf a)++plsC (l.map plOf)=_
  rw[ih,List.flatMap_cons];rfl
theorem packLn (s:List UInt8):(packS s).length<=s.length+(s.length+127)/128:=by
 have:=packT_len s s.length 0 0 (by omega) (Nat.le_refl 0) (Nat.zero_le _)
 unfold packS
 omega
theorem bx_len (k d:List UInt8):(bxS k d).length<=2*d.length+1000:=by
 have h:=packLn d
 unfold bxS
 rw[List.length_append,sealS_len _ _ _ _ (nonceS_len _)]
 show 2+_<=_
 omega
theorem nm_len (k d:List UInt8):(hexS (keyedS (keyedS k namesT) d)).length=64:=by rw[hexS_len,keyedS_len]
theorem box_bytes {l:List Bx}(h:BxOk l):(hibp::textsB l).flatten.length<=33000:=by
 have:∀ l:List Bx,(∀ b∈l,b.1.length=64)->(textsB l).flatten.length=64*l.length+(l.map fun b=>b.2.length).sum:=fun l=>by
  induction l with
  | nil=>intro _;rfl
  | cons a l ih=>
   intro h
   have h1:=ih fun b hb=>h b (List.mem_cons_of_mem _ hb)
   have h2:=h a (List.mem_cons_self ..)
   have e:textsB (a::l)=a.1::a.2::textsB l:=rfl
   rw[e,List.flatten_cons,List.flatten_cons,List.length_append,List.length_append,h1,h2,List.map_cons,List.sum_cons,List.length_cons];omega
 have h1:=this l fun b hb=>(h.nm b hb).1
 have h2:=h.sz
 have h3:=h.n
 rw[List.flatten_cons,List.length_append,h1]
 show 4+_<=_
 omega
theorem mkp_len {l:List Bx}(h:BxOk l):(bytesS l).length<=34000:=by
 have h1:=box_bytes h
 have h2:=h.n
 unfold bytesS
 have h3:=rowS_len10 (hibp::textsB l) (by omega)
 rw[List.length_cons,textsB_len] at h3
 omega
theorem names0 :∀ (l:List Bx) (seen:List (List UInt8)),(∀ b∈l,b.1.length=64/\b.1∉seen)->(l.map (·.1)).Nodup->namesF seen l=0
 | [],_,_,_=>rfl
 | b::l,seen,h,hn=>by
  obtain⟨h1,h2⟩:=h b (List.mem_cons_self ..)
  rw[List.map_cons,List.nodup_cons] at hn
  have e:mayS seen b.1=0:=by
   unfold mayS
   rw[if_neg (by omega),if_neg (by simpa using h2)]
  rw[namesF,if_pos e]
  refine names0 l _ (fun c hc=>⟨(h c (List.mem_cons_of_mem _ hc)).1,fun hm=>?_⟩) hn.2
  rcases List.mem_append.1 hm with hm | hm
  ·exact(h c (List.mem_cons_of_mem _ hc)).2 hm
  ·rw[List.mem_singleton] at hm
   exact hn.1 (hm▸List.mem_map_of_mem hc)
theorem names_0 {l:List Bx}(h:BxOk l):namesS l=0:=names0 l [] (fun b hb=>⟨(h.nm b hb).1,by simp⟩) h.nd
theorem texts_b {l:List Bx}(h:BxOk l):∀ s∈hibp::textsB l,s.length<2^28:=fun s hs=>by
 have h1:=box_bytes h
 have:=(List.sublist_flatten_of_mem hs).length_le
 omega
theorem of_make {l:List Bx}(h:BxOk l):ofS (bytesS l)=some l:=by
 have h1:textsS (bytesS l) = .ok (hibp::textsB l):=by unfold bytesS;exact textsS_row _ (texts_b h)
 exact ofS_good h1 h.n.1 (by have:=mkp_len h;omega) (names_0 h)
theorem find_box :∀ (l:List Bx) (b:Bx),b∈l->(l.map (·.1)).Nodup->l.find? (fun x=>x.1==b.1)=some b
 | a::l,b,hb,hn=>by
  rw[List.map_cons,List.nodup_cons] at hn
  rcases List.mem_cons.1 hb with e | hm
  ·rw[List.find?_cons,←e];simp
  ·have:a.1≠b.1:=fun e=>hn.1 (e▸List.mem_map_of_mem hm)
   rw[List.find?_cons,beq_eq_false_iff_ne.2 this]
   exact find_box l b hm hn.2
theorem take_make {l:List Bx}(h:BxOk l){b:Bx}(hb:b∈l):takeS (bytesS l) b.1=(b,0):=by
 unfold takeS
 rw[of_make h]
 simp only[find_box l b hb h.nd]
theorem take_cases (b nm:List UInt8):(takeS b nm=(([],[]),3))\/(takeS b nm=(([],[]),9)) ∨ ∃ l x,ofS b=some l/\x∈l/\x.1=nm/\takeS b nm=(x,0):=by
 unfold takeS
 cases ho:ofS b with
 | none=>exact .inl rfl
 | some l=>
  cases hf:l.find? (fun x=>x.1==nm) with
  | none=>exact .inr (.inl (by simp only[hf]))
  | some x=>exact .inr (.inr ⟨l,x,rfl,List.mem_of_find?_eq_some hf,by simpa using List.find?_some hf,by simp only[hf]⟩)
theorem takeLn {b nm:List UInt8}(hb:b.length<=65538):(takeS b nm).1.1.length<2^28/\(takeS b nm).1.2.length<2^28:=by
 rcases take_cases b nm with e | e | ⟨l,x,ho,hx,_,e⟩
 ·rw[e];decide
 ·rw[e];decide
 ·rw[e]
  have h1:=(ofS_some ho).1
  have h2:=texts_le b.length b _ (Nat.le_refl _) h1
  have h3:x.1∈hibp::textsB l:=List.mem_cons_of_mem _ (List.mem_flatMap.2 ⟨x,hx,by simp⟩)
  have h4:x.2∈hibp::textsB l:=List.mem_cons_of_mem _ (List.mem_flatMap.2 ⟨x,hx,by simp⟩)
  have h5:=h2 _ h3
  have h6:=h2 _ h4
  exact⟨by show x.1.length<_;omega,by show x.2.length<_;omega⟩
theorem op_bx (k d:List UInt8)(hd:d.length<=65536):opS k (hexS (keyedS (keyedS k namesT) d)) (bxS k d)=(d,0):=by
 have e:=unp_pack d (max 65536 0) (by omega)
 have e2:unpS (packS d) 65536=(d,0):=by
  unfold unpS
  rw[if_neg (fun h=>absurd h.1 (by decide))]
  exact e
 unfold bxS
 rw[List.cons_append,List.cons_append,List.nil_append,opS,if_pos (by decide),openS_seal _ _ _ _ (nonceS_len _)]
 simp only[e2,if_true]
theorem op_cases (k m x:List UInt8):((opS k m x).2≠0/\(opS k m x).1 = [])\/((opS k m x).2=0/\hexS (keyedS (keyedS k namesT) (opS k m x).1)=m):=by
 match x with
 | []=>unfold opS;exact .inl ⟨by first | decide | (show(4:Int)≠0;decide),rfl⟩
 | [a]=>unfold opS;exact .inl ⟨by first | decide | (show(4:Int)≠0;decide),rfl⟩
 | a::b::y=>
  rw[opS]
  by_cases h1:a.toNat+b.toNat*256=0
  ·rw[if_pos h1]
   by_cases h2:(openS (keyedS k boxesT) m y).2=0
   ·rw[if_pos h2]
    by_cases h3:(unpS (openS (keyedS k boxesT) m y).1 65536).2=0
    ·rw[if_pos h3]
     by_cases h4:hexS (keyedS (keyedS k namesT) (unpS (openS (keyedS k boxesT) m y).1 65536).1)=m
     ·rw[if_pos h4];exact .inr ⟨rfl,h4⟩
     ·rw[if_neg h4];exact .inl ⟨by first | decide | (show(4:Int)≠0;decide),rfl⟩
    ·rw[if_neg h3];exact .inl ⟨h3,rfl⟩
   ·rw[if_neg h2];exact .inl ⟨h2,rfl⟩
  ·rw[if_neg h1];exact .inl ⟨by first | decide | (show(4:Int)≠0;decide),rfl⟩
theorem kyOk {k no:List UInt8}(hk:k.length=32)(hn:no.length=64):KyOk (kyD k no) where
 k:=hk
 no:=hn
 ep:=ep1_len (keyedS_len _ _)
 ep1:=ep1_one _
 sh:=by show((shL (shV k no)).map cb).length=165;rw[List.length_map,shL_len]
 sh1:=cb_one
 rb:=by
  show(rowS [keyedS k checkT,[]]).length<=100
  refine Nat.le_trans (flat1 _ (a:=32) (b:=2) ?_ (Nat.le_refl 2) (by decide)) (by decide)
  simp[keyedS_len]
 bk:=keyedS_len _ _
 idk:=keyedS_len _ _
 nn:=nonceS_len
 sl:=fun n h d=>by
  show(sealS (keyedS k boxesT) (nonceS n) h d).length<=d.length+100
  rw[sealS_len _ _ _ _ (nonceS_len _)];omega
 nm:=nm_len k
 bx:=bx_len k
 nmo:=fun d=>hex_ok _ (keyedS_len _ _)
 mkp:=fun l h=>Nat.le_trans (mkp_len h) (by decide)
 pnm:=fun b=>⟨hexS (sumS b),rfl,by rw[hexS_len,sumS_len32],hex_ok _ (sumS_len32 _)⟩
 pl:=fun l h=>by
  show((placesS l).map plOf).length=l.length/\_
  have hl:(placesS l).length=l.length:=placesTo_len l _ (Nat.le_refl _)
  refine⟨by rw[List.length_map,hl],fun i hi=>?_⟩
  have hx:l[i]?=some (l.getD i ([],[])):=(getD_memX hi).1
  have hm:l.getD i ([],[])∈l:=(getD_memX hi).2
  have e:(placesS l)[i]?=some (placeOf l i (l.getD i ([],[]))):=placesTo_at l l.length i _ hi (Nat.le_refl _) hx
  have e2:((placesS l).map plOf).getD i noPl=plOf (placeOf l i (l.getD i ([],[]))):=by rw[List.getD_eq_getElem?_getD,List.getElem?_map,e];rfl
  show(((placesS l).map plOf).getD i noPl).nm=_/\PlOk (((placesS l).map plOf).getD i noPl)/\(((placesS l).map plOf).getD i noPl).at_<=_/\(((placesS l).map plOf).getD i noPl).len<=_
  rw[e2]
  have hb:=mkp_len h
  have hc:=(place_cut l i hx).2.1
  have hc1:=(place_cut l i hx).1
  have h64:=h.nm _ hm
  generalize l.getD i ([],[])=x at *
  have ha:(plOf (placeOf l i x)).at_=(((bytesS (l.take (i+1))).length-x.2.length:Nat):Int):=rfl
  have hle:(plOf (placeOf l i x)).len=(x.2.length:Int):=rfl
  exact⟨rfl,⟨by show x.1.length<_;omega,h64.2,by rw[ha];omega,by rw[hle];omega⟩,by rw[ha];omega,by rw[hle];omega⟩
 tk:=fun b nm h=>takeLn h
theorem kyRt {k no:List UInt8}:KyRt (kyD k no):=⟨fun l h b hb=>take_make h hb,fun d hd=>op_bx k d (by omega)⟩
def s3B (k no:List UInt8):List UInt8:=((shL (shV k no)).drop 33).take 33++((shL (shV k no)).drop 99).take 66
theorem s3_eq (k no:List UInt8):(kyD k no).s3=(s3B k no).map cb:=by
 show(((shL (shV k no)).map cb).drop 33).take 33++(((shL (shV k no)).map cb).drop 99).take 66=_
 unfold s3B
 rw[List.map_append,List.map_take,List.map_take,List.map_drop,List.map_drop]
theorem s3_len (k no:List UInt8):(s3B k no).length=99:=by simp[s3B,shL_len]
theorem s3_at (k no:List UInt8){q:Nat}(h:q<99):bt (s3B k no) q=shV k no (if q<33 then 33+q else 66+q):=by
 have h0:=shL_len (shV k no)
 by_cases h1:q<33
 ·rw[if_pos h1,←bt_shL (shV k no) (q:=33+q) (by omega)]
  unfold bt s3B
  rw[List.getD_eq_getElem?_getD,List.getElem?_append_left (by simp[h0];omega),List.getElem?_take,if_pos h1,List.getElem?_drop,←List.getD_eq_getElem?_getD]
 ·rw[if_neg h1,←bt_shL (shV k no) (q:=66+q) (by omega)]
  unfold bt s3B
  have hl:(((shL (shV k no)).drop 33).take 33).length=33:=by simp[h0]
  rw[List.getD_eq_getElem?_getD,List.getElem?_append_right (by omega),hl,List.getElem?_take,if_pos (by omega),List.getElem?_drop,show 99+(q-33)=66+q by omega,←List.getD_eq_getElem?_getD]
theorem key_s3 {k no:List UInt8}(hk:k.length=32):jnT (s3B k no) 32=k:=by
 have x0:bt (s3B k no) 0=2:=by rw[s3_at _ _ (by decide)];rfl
 have x1:bt (s3B k no) 33=4:=by rw[s3_at _ _ (by decide)];rfl
 have x2:bt (s3B k no) 66=5:=by rw[s3_at _ _ (by decide)];rfl
 apply List.ext_getElem?
 intro q
 by_cases hq:q<32
 ·have g0:bt (s3B k no) (1+q)=evalS [bt k q,bt no q,bt no (32+q)] 2:=by
   rw[s3_at _ _ (by omega),if_pos (by omega)]
   unfold shV polS
   rw[if_neg (by omega),show(33+(1+q))/33=1 by omega,show(33+(1+q))%33-1=q by omega];rfl
  have g1:bt (s3B k no) (34+q)=evalS [bt k q,bt no q,bt no (32+q)] 4:=by
   rw[s3_at _ _ (by omega),if_neg (by omega)]
   unfold shV polS
   rw[if_neg (by omega),show(66+(34+q))/33=3 by omega,show(66+(34+q))%33-1=q by omega];rfl
  have g2:bt (s3B k no) (67+q)=evalS [bt k q,bt no q,bt no (32+q)] 5:=by
   rw[s3_at _ _ (by omega),if_neg (by omega)]
   unfold shV polS
   rw[if_neg (by omega),show(66+(67+q))/33=4 by omega,show(66+(67+q))%33-1=q by omega];rfl
  unfold jnT
  rw[List.getElem?_map,List.getElem?_range hq,Option.map_some,if_pos hq,x0,x1,x2,g0,g1,g2,at_eval _ _ _ _ _ _ _ (by decide) (by decide) (by decide),eval3,mulS_zeroR,mulS_zeroR,mulS_zeroR,UInt8.xor_zero,UInt8.xor_zero]
  unfold bt
  rw[List.getD_eq_getElem?_getD,List.getElem?_eq_getElem (by omega:q<k.length)];rfl
 ·rw[List.getElem?_eq_none (by rw[jnT_len];omega),List.getElem?_eq_none (by omega)]
end
theorem shsplit {k no:List UInt8}{w:World}(hk:k.length=32)(hn:no.length=64):RT 80 #[.agg (cells8 k),i6 5,sv no] w (.row 71 33 5 ((shL (shV k no)).map cb) fun a=>.ret (.tuple #[a,i6 0])):=by
 refine enter Tryz.func80 ?_
 have lS:∀ f,(shL f).length=165:=shL_len
 refine rg (ba (fun g0=>?_))
 refine p2 .as .as (en (se (rg (p3 .mv .lss .mv (gDo ?_)))))
 refine p1 .mv (gDo ?_)
 refine p1 .gtr (pp (PR.por (b:=false) (b2:=false)) (p1 .mv (gDo ?_)))
 refine p1 .mv (gDo ?_)
 refine pp ((PR.ln (s:=no)).to (v2:=i6 64) (by rw[hn];rfl)) (gDo ?_)
 refine p1 .nei (pp (PR.por (b:=false) (b2:=false)) (en (cf (hb:=rfl) (sk (nN (rg (p1 .mv (mZ 5 (cells8 (List.replicate 165 0)) (e:=71) (fun gs=>?_)))))))))
 refine p1 .as (en (kM 0 (cells8 (shL (shA 0))) ?_ (hc:=by rw[shA_zero])))
 refine se (r3 .mv .l0 .mv (bl (lo (A:=Nat) (fun i=>i<=5) (fun i=>5-i) (fun i=>[(2,sv no),(3,pt g0),(8,.slice (some ⟨gs,0,none⟩) 5 5),(28,i6 ((5:Nat):Int)),(29,i6 (i:Int))]) (fun i=>[(gs,isB 71 (cells8 (shL (shA i)))),(g0,isB 23 (cells8 k))]) (fun _=>[]) 0 (by omega) su (fun i hi=>?_))))
 refine r1 .lss (se (sd (fun hi2=>?_) (fun hi2=>?_)))
 ·have hi2:i<5:=by omega
  refine sk (nN (se (bl (r2 .mv .as (rg0 (p3 .mv .mv .mv (pp (PR.ad ((i+1:Nat):Int)) (pp (PR.cv (r:=((UInt8.ofNat (i+1)).toNat:Int)) (cv8 (by omega))) (pp (PR.ib (m:=33) i) (p1 .fq (sby 0 ?_ (ho:=by rw[shL_len];omega))))))))))))
  refine en0 (kM 0 (cells8 (shL (shA (i+1)))) ?_ (hc:=by rw[shA_step]))
  exact bN (nN (rg0 (pp (PR.ad ((i+1:Nat):Int)) (p1 .mv (en0 (nN (bk (i+1) (by omega) (by omega) su)))))))
 ·obtain rfl:i=5:=by omega
  refine xt (nX (nX (bH (nN (se (kM 0 (cells8 (shL (shB k no 0 0))) ?_ (hc:=by rw[shA_B])))))))
  refine r2 (.lw (hn:=by rw[cells8_size];exact hk)) .mv (bl (lo (A:=Nat) (fun i=>i<=32) (fun i=>32-i) (fun i=>[(2,sv no),(8,.slice (some ⟨gs,0,none⟩) 5 5),(40,.agg (cells8 k)),(41,i6 (i:Int))]) (fun i=>[(gs,isB 71 (cells8 (shL (shB k no i 0))))]) (fun _=>[]) 0 (by omega) su (fun i hi=>?_)))
  refine r1 .lss (se (sd (fun hi2=>?_) (fun hi2=>?_)))
  ·have hi2:i<32:=by omega
   refine sk (nN (se ?_))
   refine bl (rg (p1 .mv (pp (PR.xby (l:=k) i) (p2 .as .as (en (dqs 8 (Y3 .mv .mv .mv (YQ (PR.sa (i:=i)) (Y2 .mv .mv (YQ (PR.ad ((32+i:Nat):Int)) (YQ (PR.sa (i:=32+i)) (YE (bs #[.int .u8 ((bt k i).toNat:Int),.int .u8 ((bt no i).toNat:Int),.int .u8 ((bt no (32+i)).toNat:Int)] (fun g1=>?_))))))))))))))
   refine p1 .as (en (kM 0 (cells8 (polS k no i)) ?_))
   refine r3 .mv .l0 .mv (bl (lo (A:=Nat) (fun j=>j<=5) (fun j=>5-j) (fun j=>[(2,sv no),(8,.slice (some ⟨gs,0,none⟩) 5 5),(10,i6 (i:Int)),(12,.slice (some ⟨g1,0,none⟩) 3 3),(40,.agg (cells8 k)),(41,i6 (i:Int)),(55,i6 ((5:Nat):Int)),(56,i6 (j:Int))]) (fun j=>[(g1,isB 5 (cells8 (polS k no i))),(gs,isB 71 (cells8 (shL (shB k no i j))))]) (fun _=>[]) 0 (by omega) su (fun j hj=>?_)))
   refine r1 .lss (se (sd (fun hj2=>?_) (fun hj2=>?_)))
   ·have hj2:j<5:=by omega
    refine sk (nN ?_)
    refine se (bl (r2 .mv .as (dq 13 (Y5 .mv .mv .mv .mv .mv (Y1 .mv (YQ (PR.ib (m:=33) j) (Y1 .fq (YQ ((PR.lby (l:=shL (shB k no i j)) (o:=j*33+0) (hi:=by rw[shL_len];omega)).to (v2:=.int .u8 ((UInt8.ofNat (j+1)).toNat:Int)) (by rw[bt_shL _ (by omega),shB_x])) (YC (fun _ _ h=>feval_any (polS k no i) _ _ _ (blkSl (m:=1) (k:=3) (h.m.at 0 rfl) rfl) (show 3<2^40 by decide)) (YQ (PR.ib (m:=33) j) (Y2 .fq (.ia1 i) (YE (sby 1 ?_ (ho:=by rw[shL_len];omega))))))))))))))
    refine en0 (kM 1 (cells8 (shL (shB k no i (j+1)))) ?_ (hc:=by rw[shB_step (by omega)]))
    exact bN (nN (rg0 (pp (PR.ad ((j+1:Nat):Int)) (p1 .mv (en0 (nN (bk (j+1) (by omega) (by omega) su)))))))
   ·obtain rfl:j=5:=by omega
    refine xt (nX (nX (bH (bN (nN (kM 1 (cells8 (shL (shB k no (i+1) 0))) ?_ (hc:=by rw[shB_next])))))))
    exact rg0 (pp (PR.ad ((i+1:Nat):Int)) (p1 .mv (en0 (nN (bk (i+1) (by omega) (by omega) su)))))
  ·obtain rfl:i=32:=by omega
   refine xt (nX (nX (bH (nN (r3 .mv .as .as (rt (kM 0 (cells8 (shL (shV k no))) ?_ (hc:=by rw[shB_all]))))))))
   refine rb (n:=5) (m:=33) (cap:=5) (cur:=cells8 (shL (shV k no))) 0 ((shL (shV k no)).map cb) ?_ (hx:=List.take_of_length_le (by simp[cells8,shL_len])) (h1:=by decide) (h2:=by decide) (h3:=by rw[cells8_size,shL_len])
   exact et [0]
theorem oB1 {D:List Deferred}{nt:Nat}{w0:World}{L:LT}{M:MT}{R:List Rw}{ps:String}{af:Array Edge}{d i:Nat}{l:List Oper}{KL:List Kp}{AL:List NewZ}{BL:List OldQ}{js:List Nat}{Bs j s m n:Nat}{e ty t:TypeId}{xs:List Value}(hj:dIdx l s 0=some j:=by rfl)(hK:KL.getD j .any = .tel [e] (.row e m n xs fun v=>.ret v):=by rfl)(hb:depB l i j s=true:=by kernel_rfl)(hA:(AL.all fun d=>!(Nat.beq d.iA j))=true:=by kernel_rfl)(hB:∀ p a c,Tryz.prog.built t [(0,.slice p a c)]=some #[.slice p a c]:=by intros;kernel_rfl) :
  OPd Tryz.prog (QZ D nt w0 L M R l KL AL BL js Bs i) ⟨some d,.build t #[(0,.tmp s)],ty,ps,af,none⟩ l (.tel [e] (.row e m n xs fun u=>.ret (.agg #[u]))) Bs:=fun a W hg=>by
 obtain⟨u,h1,h2⟩:=hg.dep j s hb hA
 rw[hK] at h2
 obtain⟨_,u',q1,_,rfl⟩:=h2
 obtain⟨_,_,_,rfl⟩:=own_slice q1
 refine .inl ⟨wanted_yes rfl,givz_run (run_blt rfl (bltE1 (eval_tmp h1)) (hB _ _ _)) ⟨⟨by simp,fun _=>trivial⟩,T1 q1 (by simp) T0⟩⟩
theorem bsE {K:List UInt8}(hK:K.length=32)(w:World):(Instr.buildSlice 34 1 #[(0,.agg (ep1 K).toArray)]).run Tryz.prog w = .ok (.slice (some ⟨w.heap.size,0,none⟩) 1 1) (w.alloc (.cells (ep1 K).toArray 106)):=by
 obtain⟨a0,a1,a2,a3,a4,a5,a6,a7,a8,a9,b0,b1,b2,b3,b4,b5,b6,b7,b8,b9,c0,c1,c2,c3,c4,c5,c6,c7,c8,c9,d0,d1,rfl⟩:=list32 hK
 kernel_rfl
theorem bsK {k:List UInt8}(hK:k.length=32)(w:World):(Instr.buildSlice 37 1 #[(0,.agg (cells8 k))]).run Tryz.prog w = .ok (.slice (some ⟨w.heap.size,0,none⟩) 1 1) (w.alloc (.cells (cells8 k) 23)):=by
 obtain⟨a0,a1,a2,a3,a4,a5,a6,a7,a8,a9,b0,b1,b2,b3,b4,b5,b6,b7,b8,b9,c0,c1,c2,c3,c4,c5,c6,c7,c8,c9,d0,d1,rfl⟩:=list32 hK
 kernel_rfl
theorem kmake {k no:List UInt8}{w:World}(hG:HG w)(hk:k.length=32)(hn:no.length=64):RT 31 #[.agg (cells8 k),sv no] w (.row 106 33 1 (ep1 (keyedS k checkT)) fun a=>.row 23 32 1 (dgC k) fun b=>.row 71 33 5 ((shL (shV k no)).map cb) fun c=>.ret (.tuple #[.agg #[a],.agg #[b],c,i6 0])):=by
 refine enter Tryz.func31 ?_
 have hk2:(cells8 k).size=32:=by rw[cells8_size,hk]
 have hk3:(cells8 k).toList.length=1*32:=by rw[Array.length_toList,hk2]
 have hcO:∀ w2,Below w.heap.size w w2->RV 81 #[.agg (cells8 k)] w2 (.agg (cells8 (keyedS k checkT))):=fun w2 hb=>kcheckOf (hG.below hb) hk
 have lK:(keyedS k checkT).length=32:=keyedS_len _ _
 generalize keyedS k checkT=K at *
 refine rg (ba (fun g0=>?_))
 refine aa Tryz.zeroValue36 (fun g1=>aa Tryz.zeroValue39 (fun g2=>p2 .as .as (en (rg (p2 (.lw (hn:=by rw[cells8_size];exact hk)) .mv (ce (fun _ _ h=>shsplit hk hn) (fun sh=>?_)))))))
 refine os 0 (fun osh csh=>?_)
 refine p5 .mv .ext .ext .as .as (en (se (r2 .mv .nei (cf (hb:=rfl) (sk (nN (rg (p1 (.lw (hn:=by rw[cells8_size];exact hk)) (cl (fun _ _ h=>hcO _ h.m.below) (pp (PR.bd (ep1 K).toArray (.cons ev .nil) (built_ep1 lK)) (bs ((ep1 K).toArray) (fun g3=>?_) (hr:=bsE lK))))))))))))
 refine pp (PR.bd #[.slice (some ⟨g3,0,none⟩) 1 1]) (aa Tryz.zeroValue36 (fun g4=>sw 0 ?_))
 refine en (dr [_,_,.tel [23] (.row 23 32 1 (cells8 k).toList fun v=>.ret v),.tel [23] (.row 23 32 1 (cells8 k).toList fun u=>.ret (.agg #[u])),_,.any,.any,_,_] [] [⟨5,_,_,_,0,.val (.agg #[.slice (some ⟨g3,0,none⟩) 1 1])⟩,⟨6,_,_,_,0,.tel [23] (.row 23 32 1 (cells8 k).toList fun u=>.ret (.agg #[u]))⟩] [3,2] [6,7] ⟨rfl,rfl,trivial⟩ (fun Bs=>⟨kv (oP (PR.lw ez (mk' 0))),kv (oP (PR.lw ez (mk' 4) (hn:=hk2))),kv (oS (cells8 k) (fun _ _ h=>h.size) (.cons ed .nil) (bsK hk) (hs:=hk3)),kv oB1,kv (oP (PR.mv ez)),ks 0,ks 1,kv (oP (PR.as ed)),kv (oP (PR.as EV.k)),trivial⟩) (fun va=>?_))
 refine rt (rb (n:=1) (m:=33) (cap:=1) 1 (ep1 K) ?_ (hx:=List.take_of_length_le (show(ep1 K).length<=1*33 by rw[ep1_len lK];decide)) (h1:=by decide) (h2:=by decide) (h3:=ep1_len lK))
 refine rc 1 1 (dgC k) (hn:=rfl) (hx:=show(cells8 k).toList=dgC k from(dgC_of hk).symm) (h:=?_)
 exact et [0,1,2]
theorem texts2 {K:List UInt8}{w:World}(hK:K.length=32):RT 94 #[sv (rowS [K,[]])] w (.row 9 1 2 (txs [K,[]]) fun v=>.ret (.tuple #[v,i6 0])):=by
 have h:=ntexts (b:=rowS [K,[]]) (w:=w) (by have:=rowS_len [K,[]];simp at this;omega)
 rwa[ntT_ok (textsS_row [K,[]] (by simp;omega))] at h
theorem ep_set {K:List UInt8}(hK:K.length=32):spl (ep1 (List.replicate 32 0)).toArray 0 ((K.take (Nat.min K.length 32)).map cb)=(ep1 K).toArray:=by
 obtain⟨a0,a1,a2,a3,a4,a5,a6,a7,a8,a9,b0,b1,b2,b3,b4,b5,b6,b7,b8,b9,c0,c1,c2,c3,c4,c5,c6,c7,c8,c9,d0,d1,rfl⟩:=list32 hK
 rfl
theorem kof {K:List UInt8}{w:World}(hK:K.length=32):RT 135 #[sv (rowS [K,[]])] w (.row 106 33 1 (ep1 K) fun a=>.ret (.tuple #[.agg #[a],i6 0])):=by
 refine enter Tryz.func135 ?_
 refine rg (aa Tryz.zeroValue36 (fun g0=>p1 .as (en (rg (p1 .mv (ce (fun _ _ h=>texts2 hK) (fun vt=>?_)))))))
 refine os 0 (fun ovt cvt=>?_)
 refine p5 .mv .ext .ext .as .as (en ?_)
 refine se (r2 .mv .nei (cf (hb:=rfl) (sk (nN (se (rg (p1 .mv (pp (PR.lr) (pp (PR.rmn 0) (p1 .nei (en (cf (hb:=rfl) (sk ?_)))))))))))))
 refine nN (rg (aa Tryz.zeroValue36 (fun g1=>en (se (r1 .as (bl (lr 2 (un (se (rg (p2 .mv .mv (pp (PR.lr) (p1 .lss ?_)))))))))))))
 refine en (ct (sk (nN (se (bl (rg (p2 .mv .mv (pp (PR.ad 1) (pp (PR.ix (i:=1)) (pp (PR.lp (v2:=.string ⟨#[]⟩) (cs:=txs [K,[]]) rfl) (pp (PR.bd (ep1 (List.replicate 32 0)).toArray) (aa Tryz.zeroValue106 (fun g2=>sw 0 (h1:=allA (List.all_eq_true.2 (ep1_one _))) (hV:=ep1_len rfl) ?_)))))))))))))
 refine en (se (rg (p2 .mv .mv (pp (PR.ix (i:=0)) (pp (PR.lp (v2:=sv K) (cs:=txs [K,[]]) rfl) ?_)))))
 refine pp ((PR.ln (s:=K)).to (v2:=i6 32) (by rw[hK];rfl)) (p1 .nei (en (cf (hb:=rfl) (sk (nN (dqs 6 (Y1 .fa (YQ PR.sA (Y2 .mv .mv (YQ (PR.ix (i:=0)) (YQ (PR.lp (v2:=sv K) (cs:=txs [K,[]]) rfl) (YE (cpS 0 ?_ (hfit:=by rw[Nat.zero_add];exact Nat.le_trans (Nat.min_le_right _ _) (show 32<=(ep1 (List.replicate 32 0)).length by rw[ep1_len rfl];decide)))))))))))))))
 refine en (kM 0 (ep1 K).toArray ?_ (hc:=ep_set hK))
 refine nr 106 33 ?_
 refine rg0 (p2 .fa .ld (pp (PR.lw (hn:=ep1_len hK)) (bs ((ep1 K).toArray) (fun g3=>?_) (hr:=bsE hK))))
 refine ap 0 (fun v1=>?_) (hl:=ep1_len hK) (h1:=List.all_eq_true.2 (ep1_one K))
 refine rc 0 1 (ep1 K) (hn:=rfl) (hx:=rfl) (h:=?_)
 refine os 0 (fun o1 _=>?_)
 refine p1 .fa (s1 2 (cs:=#[v1]) ?_)
 refine en0 ?_
 refine bN (nN (rg0 (p1 .mv (pp (PR.ad 2) (p1 .as (en0 (nN (un (se (rg (p2 .mv .mv (pp (PR.lr) (p1 .lss (en ?_))))))))))))))
 refine cf (xt (nX (nX (bH (nN (se (rg (p1 .lw (cl (fun _ _ h=>kmayBe hK (h.s 0)) (p1 .not (en (cf (hb:=rfl) (sk (nN (rg (p1 .lw (sw 3 ?_)))))))))))))))))
 exact p1 .as (en (rt (et [0])))
theorem PR.arr {G:Kn}{x:Operand}{v:Value}{ty e:TypeId}{m n k:Nat}{cs:List Value}(hx:EV G x v:=by exact ev)(hs:SL G v k n cs:=by exact sl)(hu:und ty=some (.array m e):=by rfl)(hm:m<=n:=by decide)(hc:0<n:=by decide):PR Tryz.prog G (.sliceToArrayPointer ty x) (slPtr v 0):=fun a w _ ho hg=>by
 obtain⟨b,off,c,rfl,hq⟩:=slPtr_of (hs a w hg) hc
 rw[run_arrAt ho (hx a w hg) (und_ok hu) hm,(hq 0).1,Nat.add_zero]
theorem PR.ne0 {G:Kn}{x:Operand}{c:UInt8}{t t2:TypeId}(h:c≠0)(hx:EV G x (.int .u8 (c.toNat:Int)):=by exact ev):PR Tryz.prog G (.binOp .eql t x (.const (.int .u8 0)) t2) (.bool false):=(PR.eqi hx EV.k).to (by
 rw[decide_eq_false]
 intro e
 exact h (UInt8.toNat_inj.1 (by simpa using Int.ofNat.inj e)))
theorem fat3 {X Y:List UInt8}{vx vy:Value}{w:World}(hN:X.Nodup)(hx:Sl w vx 1 3 (X.map cb))(hy:Sl w vy 1 3 (Y.map cb))(eX:X.length=3:=by rfl)(eY:Y.length=3:=by rfl):RV 131 #[vx,vy,.int .u8 0] w (.tuple #[.int .u8 ((atT X Y 0 3).toNat:Int),.bool true]):=by
 have h:=fat_any X Y vx vy 0 w (eX▸hx) (eY▸hy) (by rw[eX,eY]) (by rw[eX];decide)
 rw[if_pos hN,eX] at h
 exact h
theorem sjoin {b:List UInt8}{u:Value}{w:World}(hb:b.length=99)(hU:Sl w u 33 3 (b.map cb))(hx0:bt b 0≠0)(hx1:bt b 33≠0)(hx2:bt b 66≠0)(hNd:[bt b 0,bt b 33,bt b 66].Nodup):RV 72 #[u] w (.tuple #[.agg (cells8 (jnT b 32)),i6 0]):=by
 refine enter Tryz.func72 ?_
 have hou:=hU.one
 have hz:(cells8 (jnT b 32)).size=32:=by rw[cells8_size,jnT_len]
 have lJ:∀ i,(jnT b i).length=32:=jnT_len b
 refine rg (aa Tryz.zeroValue23 (fun g0=>kM 0 (cells8 (List.replicate 32 0)) ?_))
 refine p1 .as (en (se ?_))
 refine rg (p1 .mv (pp (PR.lr) (p1 .nei (en (cf (hb:=rfl) (sk (nN (rg (p1 .mv (pp PR.arr (pp (PR.lq (o:=0) (cs:=b.map cb) (ys:=b.map cb) (fun j u hj=>by rw[Nat.zero_add];exact hj) (hz:=by rw[List.length_map,hb];rfl)) (aa Tryz.zeroValue237 (fun g4x=>sw 0 (h1:=cells8_one _) (hV:=by rw[cells8_size,hb]) ?_)))))))))))))
 refine en (rg (pp (PR.ia 0) (p2 .fa .lby (pp (PR.ia 1) (p2 .fq .lby (pp (PR.ia 2) (p2 .fq .lby (pp ((PR.bd #[.int .u8 ((bt b 0).toNat:Int),.int .u8 ((bt b 33).toNat:Int),.int .u8 ((bt b 66).toNat:Int)]).to (v2:=.agg (cells8 [bt b 0,bt b 33,bt b 66])) rfl) (aa Tryz.zeroValue238 (fun g1=>kM 0 (cells8 (List.replicate 3 0)) ?_))))))))))
 refine sw 0 (h1:=cells8_one _) (hV:=by rw[cells8_size];first | rfl | assumption) (hW:=by rw[cells8_size];first | rfl | assumption) ?_
 refine en (se (rg (p1 (.ia0 0) (pp (PR.lby (l:=[bt b 0,bt b 33,bt b 66]) (o:=0) (hi:=show 0<3 by decide)) (pp (PR.ne0 hx0) (p1 .mv (gDo ?_)))))))
 refine p1 (.ia0 1) (gDo ?_)
 refine pp (PR.lby (l:=[bt b 0,bt b 33,bt b 66]) (o:=1) (hi:=show 1<3 by decide)) (gDo ?_)
 refine pp (PR.ne0 hx1) (pp (PR.por (b:=false) (b2:=false)) (p1 .mv (gDo ?_)))
 refine p1 (.ia0 2) (gDo ?_)
 refine pp (PR.lby (l:=[bt b 0,bt b 33,bt b 66]) (o:=2) (hi:=show 2<3 by decide)) (gDo ?_)
 refine pp (PR.ne0 hx2) (pp (PR.por (b:=false) (b2:=false)) (en (cf (hb:=rfl) (sk (nN (rg (aa Tryz.zeroValue23 (fun g2=>kM 0 (cells8 (List.replicate 32 0)) ?_))))))))
 refine en (kM 0 (cells8 (jnT b 0)) ?_ (hc:=by rw[jnT_zero]))
 refine se (r1 .mv (bl (lo (A:=Nat) (fun i=>i<=32) (fun i=>32-i) (fun i=>[(2,pt g0),(4,pt g4x),(5,pt g1),(6,pt g2),(42,i6 (i:Int))]) (fun i=>[(g2,isB 23 (cells8 (jnT b i))),(g1,isB 238 (cells8 [bt b 0,bt b 33,bt b 66])),(g4x,isB 237 (cells8 b)),(g0,isB 23 (cells8 (List.replicate 32 0)))]) (fun _=>[]) 0 (by omega) su (fun i hi=>?_))))
 refine r1 .lss (se (sd (fun hi2=>?_) (fun hi2=>?_)))
 ·have hi2:i<32:=by omega
  refine sk (nN (se (bl (r2 .mv .as (dr [_,_,_,_,_,_,_,_,_,_,_,_,_,_,_,_,.any,.any] [⟨16,8,17,238,#[.int .u8 0,.int .u8 0,.int .u8 0],.val (.agg (cells8 [bt b (1+i),bt b (34+i),bt b (67+i)]))⟩] [] [] [] trivial (fun Bs=>⟨kv (oP (PR.mv ez)),kv (oP (PR.ia 0 ez EV.k)),kv (oP (PR.fa ed)),kv (oP (PR.ia1 i ed ed)),kv (oP (PR.lby ed (mk' 2) rfl (by rw[hb];omega))),kv (oP (PR.mv ez)),kv (oP (PR.ia 1 ez EV.k)),kv (oP (PR.fq ed)),kv (oP (PR.ia1 i ed ed)),kv (oP (PR.lby ed (mk' 2) rfl (by rw[hb];omega))),kv (oP (PR.mv ez)),kv (oP (PR.ia 2 ez EV.k)),kv (oP (PR.fq ed)),kv (oP (PR.ia1 i ed ed)),kv (oP (PR.lby ed (mk' 2) rfl (by rw[hb];omega))),kv (oP ((PR.bd #[.int .u8 ((bt b (1+i)).toNat:Int),.int .u8 ((bt b (34+i)).toNat:Int),.int .u8 ((bt b (67+i)).toNat:Int)] (.cons ed (.cons ed (.cons ed .nil)))).to (v2:=.agg (cells8 [bt b (1+i),bt b (34+i),bt b (67+i)])) rfl)),kn 0 Tryz.zeroValue238 (V:=.agg #[.int .u8 0,.int .u8 0,.int .u8 0]),kp 0,trivial⟩) (fun g3=>?_))))))
  refine dqb (Y2 .sA .sA (YC (fun _ _ h=>fat3 hNd (blkSl (m:=1) (k:=3) (h.m.at 2 rfl) rfl) (blkSl (m:=1) (k:=3) (h.m.at 0 rfl) rfl)) (Y5 .mv .ext .ext .as .as (YE (se (r2 .mv .not (cf (hb:=rfl) (sk (nN (rg0 (p3 .mv .mv (.ia0 i) (sby 1 ?_ (ho:=by rw[jnT_len];omega)))))))))))))
  refine en0 (kM 1 (cells8 (jnT b (i+1))) ?_ (hc:=by rw[jnT_step]))
  exact bN (nN (rg0 (pp (PR.ad ((i+1:Nat):Int)) (p1 .mv (en0 (nN (bk (i+1) (by omega) (by omega) su)))))))
 ·obtain rfl:i=32:=by omega
  refine xt (nX (nX (bH (nN (rg (p1 (.lw (hn:=by rw[cells8_size];exact jnT_len _ _)) (sw 3 (h1:=cells8_one _) (hV:=by rw[cells8_size];exact jnT_len _ _) (hW:=by rw[cells8_size];first | rfl | assumption) ?_)))))))
  exact p1 .as (en (rt qv))
theorem take_no {b nm:List UInt8}(h:ofS b=none):takeS b nm=(([],[]),3):=by unfold takeS;rw[h]
theorem pkof_no {b:List UInt8}{w:World}(hb:b.length<2^42)(h:ofS b=none):RT 41 #[sv b] w (.ret (.tuple #[nv,i6 3])):=pofT_no h▸pkof hb
theorem pkof_some {b:List UInt8}{l:List Bx}{w:World}(hb:b.length<2^42)(h:ofS b=some l):RT 41 #[sv b] w (.row 158 3 l.length ((placesS l).flatMap placeC) fun v=>.ret (.tuple #[v,i6 0])):=pofT_some h▸pkof hb
theorem take_hit {b nm:List UInt8}{l:List Bx}{x:Bx}(h:ofS b=some l)(hf:l.find? (fun x=>x.1==nm)=some x):takeS b nm=(x,0):=by unfold takeS;rw[h];simp only;rw[hf]
theorem take_miss {b nm:List UInt8}{l:List Bx}(h:ofS b=some l)(hf:l.find? (fun x=>x.1==nm)=none):takeS b nm=(([],[]),9):=by unfold takeS;rw[h];simp only;rw[hf]
theorem pktake {b nm:List UInt8}{w:World}(hb:b.length<2^42):RV 48 #[sv b,sv nm] w (.tuple #[.agg (boxC (takeS b nm).1).toArray,i6 (takeS b nm).2]):=by
 refine enter Tryz.func48 ?_
 refine rg (aa Tryz.zeroValue101 (fun g0=>p1 .as (en ?_)))
 cases ho:ofS b with
 | none=>
  rw[take_no ho]
  refine rg (p1 .mv (ce (fun _ _ h=>pkof_no hb ho) ?_))
  refine p5 .mv .ext .ext .as .as (en (se (r2 .mv .nei (ct (hb:=rfl) (rg (pp (PR.bd #[.string ⟨#[]⟩,.string ⟨#[]⟩]) (p1 .mv (sw 0 ?_))))))))
  exact p1 .as (en (rt (nR qv)))
 | some l=>
  have hos:=ofS_some ho
  have hbb:=hos.2.1
  have hll:l.length<=65536:=by have:=row_ge (hibp::textsB l);rw[List.length_cons,textsB_len,show rowS (hibp::textsB l)=b from hbb] at this;omega
  refine rg (p1 .mv (ce (fun _ _ h=>pkof_some hb ho) (fun vp=>?_)))
  refine os 0 (fun ovp cvp=>?_)
  refine p5 .mv .ext .ext .as .as ?_
  refine en (se (r2 .mv .nei (cf (hb:=rfl) (sk (nN (se (rg (p1 .mv (pp (PR.lr) (p1 .mv (en (bl (lo (A:=Nat) (fun i=>i<=l.length/\l.find? (fun x=>x.1==nm)=(l.drop i).find? fun x=>x.1==nm) (fun i=>l.length-i) (fun i=>[(0,sv b),(1,sv nm),(4,pt g0),(19,vp),(20,i6 (l.length:Int)),(21,i6 (i:Int))]) (fun _=>[(g0,isB 101 #[.string ⟨#[]⟩,.string ⟨#[]⟩])]) (fun _=>[⟨vp,158,3,l.length,(placesS l).flatMap placeC⟩]) 0 ⟨Nat.zero_le _,rfl⟩ su (fun i hi=>?_))))))))))))))
  obtain⟨hi,hfi⟩:=hi
  refine r1 .lss (se (sd (fun hi2=>?_) (fun hi2=>?_)))
  ·have hi2:i<l.length:=by omega
   obtain⟨x,hx⟩:∃ x,l[i]?=some x:=⟨_,List.getElem?_eq_getElem hi2⟩
   have hpc:=place_cut l i hx
   have hcut:=hpc.2.2
   rw[hbb] at hpc hcut
   have hfs:=find_step l nm i hx
   refine sk (nN (se (bl (rg (pp (PR.ix (i:=i)) (pp (PR.lq (o:=i*3) (cs:=(placesS l).flatMap placeC) (ys:=[tx x.1,i6 (((bytesS (l.take (i+1))).length-x.2.length:Nat):Int),i6 (x.2.length:Int)]) (fun j u hj=>flat_at placeC_len (placesTo_at l l.length i x hi2 (Nat.le_refl _) hx) j hj)) (aa Tryz.zeroValue158 (fun g1=>sw 0 ?_))))))))
   refine en (r4 .fa .ld .mv .eqs (sd (fun hnm=>?_) (fun hnm=>?_)))
   ·have hnm:x.1=nm:=hnm
    rw[if_pos hnm] at hfs
    rw[take_hit ho (hfi.trans hfs)]
    refine rg (p5 .mv .mv .fa .ld .fa (p3 .ld .fa .ld (pp (PR.ad ((bytesS (l.take (i+1))).length:Int)) (pp ((PR.sm (s:=b) (i:=(bytesS (l.take (i+1))).length-x.2.length) (j:=(bytesS (l.take (i+1))).length) (hn:=by omega)).to (v2:=sv x.2) (by rw[show(bytesS (l.take (i+1))).length-((bytesS (l.take (i+1))).length-x.2.length)=x.2.length by omega,hcut])) (pp (PR.bd #[sv nm,sv x.2]) (sw 1 ?_))))))
    exact p1 .as (en (rt (bR (nR (nR (bR (nR (qv (hv:=by show Value.tuple #[.agg #[tx nm,tx x.2],i6 0] = .tuple #[.agg #[tx x.1,tx x.2],i6 0];rw[hnm])))))))))
   ·have hnm:¬ x.1=nm:=hnm
    rw[if_neg hnm] at hfs
    exact sk (bN (nN (rg0 (pp (PR.ad ((i+1:Nat):Int)) (p1 .mv (en0 (nN (bk (i+1) ⟨by omega,hfi.trans hfs⟩ (by omega) su))))))))
  ·obtain rfl:i=l.length:=by omega
   rw[List.drop_length] at hfi
   rw[take_miss ho (by rw[hfi];rfl)]
   refine xt (nX (nX (bH (nN (rg (pp (PR.bd #[.string ⟨#[]⟩,.string ⟨#[]⟩]) (sw 0 ?_)))))))
   exact p1 .as (en (rt qv))
theorem nput8 {w:World}:RV 58 #[.int .u64 0,i6 8] w (sv (putS 0)):=by
 refine enter Tryz.func58 ?_
 refine r1 .as (rg (p1 .mv (pp (PR.max 8 (hr:=rfl)) (pp (PR.min 8 (hr:=rfl)) (p1 .as (en (rg (aa Tryz.zeroValue224 (fun g0=>kM 0 (cells8 (List.replicate 8 0)) ?_)))))))))
 refine en (se (r2 .mv .mv (bl (lo (A:=Nat) (fun i=>i<=8) (fun i=>8-i) (fun i=>[(0,.int .u64 0),(1,i6 8),(4,.string ⟨#[]⟩),(5,pt g0),(10,i6 8),(11,i6 (i:Int))]) (fun i=>[(g0,isB 224 (cells8 (List.replicate 8 0)))]) (fun i=>[]) 0 (by omega) su (fun i hi=>?_)))))
 refine r1 .lss (se (sd (fun hi=>?_) (fun hi=>?_)))
 ·have hi:i<8:=by omega
  refine sk (nN (se (bl (r2 .mv .as (rg0 (p3 .mv .mv .mv (pp (PR.ml ((8*i:Nat):Int)) (pp (PR.shr 0 (h:=Int.zero_ediv _) (h0:=⟨by omega,by show _<=((64:Nat):Int);omega⟩)) (pp (PR.cv (r:=((0:UInt8).toNat:Int)) cv00) (p1 (.ia0 i) (sby 0 ?_ (ho:=by simpa using hi))))))))))))
  refine en0 (kM 0 (cells8 (List.replicate 8 0)) ?_ (hc:=by rw[List.set_replicate_self]))
  exact bN (nN (rg0 (pp (PR.ad ((i+1:Nat):Int)) (p1 .mv (en0 (nN (bk (i+1) (by omega) (by omega) su)))))))
 ·obtain rfl:i=8:=by omega
  exact xt (nX (nX (bH (nN (rg (p1 .mv (pp (PR.sAh 8) (pp (PR.bQ (hl:=by decide)) (p1 .as (en (rt (q1 rfl))))))))))))
section
attribute [local irreducible] sumS keyedS sealS bxS opS bytesS takeS rowS packS hexS nonceS jnT shL
theorem nonce12 {n:List UInt8}(h:n.length=12):nonceS n=n:=by
 have:=nonceS_app n [] h
 rwa[List.append_nil] at this
theorem kyJoin {k no:List UInt8}(hk:k.length=32){w:World}{u:Value}(hU:Sl w u 33 3 (kyD k no).s3):RV 72 #[u] w (.tuple #[.agg (cells8 k),i6 0]):=by
 rw[s3_eq] at hU
 have x0:bt (s3B k no) 0=2:=by rw[s3_at _ _ (by decide)];rfl
 have x1:bt (s3B k no) 33=4:=by rw[s3_at _ _ (by decide)];rfl
 have x2:bt (s3B k no) 66=5:=by rw[s3_at _ _ (by decide)];rfl
 have h:=sjoin (s3_len k no) hU (by rw[x0];decide) (by rw[x1];decide) (by rw[x2];decide) (by rw[x0,x1,x2];decide)
 rwa[key_s3 hk] at h
theorem envE {w:World}(hG:HG w)(hg:GL w):Env w where
 gl:=hg
 sum:=fun _ _ _ hb hV h1 h2=>hsum (hG.below hb) hV h1 h2
 put:=fun _=>nput8
 hof:=fun _ _ h=>hof h
theorem envK {k no:List UInt8}{w:World}(hk:k.length=32)(hn:no.length=64)(hG:HG w)(hE:Env w):EnvK (kyD k no) w where
 e:=hE
 ok:=kyOk hk hn
 chk:=fun hb hV hU=>kchk (hG.below hb) hk hV hU
 byt:=fun _ hV=>kbytes1 (keyedS_len _ _) hV
 box:=fun hb hU=>kbox (hG.below hb) hk hU
 of:=fun _=>kof (keyedS_len _ _)
 opn:=fun hb hV hU=>kopen (hG.below hb) hk (by rw[s3_eq];exact cb_one) (fun _ _ _ h=>kyJoin hk h) hV hU
 mke:=fun hb=>kmake (hG.below hb) hk hn
 id:=fun hb hU=>kid (hG.below hb) hk hU
 join:=fun _ hU=>kyJoin hk hU
 non:=fun _ _=>snonce
 sea:=fun {w2 n h d} hb hl hs=>by
  have:=sseal (k:=keyedS k boxesT) (no:=nonceS n) (hd:=h) (d:=d) (hG.below hb) (keyedS_len _ _) (nonceS_len _) (by omega)
  rw[nonce12 hl] at this
  show RV _ _ w2 (sv (sealS (keyedS k boxesT) (nonceS n) h d))
  rw[nonce12 hl]
  exact this
 sop:=fun {w2 n h d} hb hl hs=>by
  have e:=sealS_len (keyedS k boxesT) (nonceS n) h d (nonceS_len _)
  have:=sopen (k:=keyedS k boxesT) (hd:=h) (x:=sealS (keyedS k boxesT) (nonceS n) h d) (hG.below hb) (keyedS_len _ _) (by omega)
  rw[openS_seal _ _ _ _ (nonceS_len _)] at this
  exact this
 cnm:=fun hb hU hd=>cname (hG.below hb) hk (by omega) hU
 cse:=fun hb hU hd=>cseal (hG.below hb) hk hd hU
 cop:=fun hb hU h1 h2=>copen (hG.below hb) hk h1 h2 hU
 pmk:=fun hb hV h=>pkmake hV h.n.1 (by have:=h.n;omega) (names_0 h) (by have:=mkp_len h;omega) (fun x hx=>by have:=(h.nm x hx).1;omega) (by have:=box_bytes h;omega)
 pof:=fun {w2 l} _ h=>by
  have h1:=mkp_len h
  have h2:=pkof (b:=bytesS l) (w:=w2) (by omega)
  rw[pofT_some (of_make h)] at h2
  have hl:(placesS l).length=l.length:=placesTo_len l _ (Nat.le_refl _)
  show RT _ _ w2 (.row 158 3 ((placesS l).map plOf).length (plsC ((placesS l).map plOf)) _)
  rw[List.length_map,hl,pl_C]
  exact h2
 pna:=fun hb h=>pkname (hG.below hb) (by omega)
 ptk:=fun _ h=>pktake (by omega)
end
section
attribute [local irreducible] sumS rtObj
theorem tbegY {D:KyD}{w:World}{da:List UInt8}(hK:EnvK D w)(hnew:∀ {w2:World},Below w.heap.size w w2->RT 15 #[.agg #[nv,nv,nv,nv,nv,nv,nv,nv,nv,nv,i6 (-1)],.agg (cells8 D.k),sv D.no,i6 0,.agg #[i6 3,i6 2,i6 1,i6 1]] w2 (stZ (pZ zE (nameR 1) (fun _=>da)) fun a b c d e f g h i j=>kyK D fun r y=>.row 71 33 5 D.sh fun sh=>.ret (.tuple #[.agg (vltC ⟨a,b,c,d,e,f,g,h,i,j,r,y,nv,nv,nv,nv,nv⟩ 1).toArray,sh,i6 0]))):RT 6 #[.agg (cells8 D.k),.agg (cells8 D.no),i6 (-1)] w (stZ (pZ zE (nameR 1) (fun _=>da)) fun a b c d e f g h i j=>kyK D fun r y=>.row 71 33 5 D.sh fun sh=>.ret (.tuple #[.agg (vltC ⟨a,b,c,d,e,f,g,h,i,j,r,y,nv,nv,nv,nv,nv⟩ 1).toArray,sh,i6 0])):=by
 refine enter Tryz.func6 ?_
 have hk32:(cells8 D.k).size=32:=by rw[cells8_size,hK.ok.k]
 have hn64:(cells8 D.no).size=64:=by rw[cells8_size,hK.ok.no]
 refine rg (ba (fun g0=>?_))
 refine ba (fun g1=>?_)
 refine aa Tryz.zeroValue50 (fun g2=>p2 .as .as (en (dr [_,_,_,_,_,_,.tel [73,3,106,23,71] (Tele.ext (tup3 71 33 5 D.sh (i6 0)) (stZ (pZ zE (nameR 1) (fun _=>da)) fun a b c d e f g h i j=>kyK D fun r y=>.ret (.agg (vltC ⟨a,b,c,d,e,f,g,h,i,j,r,y,nv,nv,nv,nv,nv⟩ 1).toArray))),.tel [73,3,106,23] (stZ (pZ zE (nameR 1) (fun _=>da)) fun a b c d e f g h i j=>kyK D fun r y=>.ret (.agg (vltC ⟨a,b,c,d,e,f,g,h,i,j,r,y,nv,nv,nv,nv,nv⟩ 1).toArray)),.tel [71] (.row 71 33 5 D.sh fun v=>.ret v),.val (i6 0),.any,.tel [71] (.row 71 33 5 D.sh fun v=>.ret v),_] [] [⟨10,_,_,_,0,.tel [73,3,106,23] (stZ (pZ zE (nameR 1) (fun _=>da)) fun a b c d e f g h i j=>kyK D fun r y=>.ret (.agg (vltC ⟨a,b,c,d,e,f,g,h,i,j,r,y,nv,nv,nv,nv,nv⟩ 1).toArray))⟩] [0] [7,8] ⟨rfl,trivial⟩ (fun Bs=>⟨kv (oP (PR.mv ez)),kv (oP (PR.bd #[nv,nv,nv,nv,nv,nv,nv,nv,nv,nv,i6 (-1)] (.cons ed .nil))),kv (oP (PR.lw ez (mk' 2) (hn:=hk32))),kv (oP (PR.sA ez)),kv (oP (PR.bB (l:=D.no) ed (mk' 1) hK.ok.no)),kv (oP (PR.bd #[i6 3,i6 2,i6 1,i6 1] (.cons EV.k (.cons EV.k (.cons EV.k (.cons EV.k .nil)))))),kv (oE (fun _ _ h=>h.size) (fun _ _ h=>hnew h.low) (.cons ed (.cons ed (.cons ed (.cons EV.k (.cons ed .nil)))))),kv oE0,kv oE1,kv oE2,ks 0,kv (oM .assign (.inr rfl)),kv (oP (PR.as ed)),trivial⟩) (fun wa wb wc wd we wf wg wh wi wj nr ny vh=>?_))))
 refine kM 0 #[wa,wb,wc,wd,we,wf,wg,wh,wi,wj,i6 (-1),nr,ny,i6 1,i6 0,nv,nv,i6 3,i6 2,i6 1,i6 1,nv,nv,nv] ?_
 exact rt (et [1,2,3,4,5,6,7,8,9,10,11,12,0])
end
theorem vGet {D:KyD}{w:World}{q:Vv}{N lf left2:Int}{Z:Nat->Shf}{refs:List (List UInt8)}{ps:List (List UInt8)}{p:PkS}{x:Value}{s bt:List UInt8}{eC:Int}{c0 c1 c2 c3 c4:Bool}(hK:EnvK D w)(hV:VIn D w q Z refs [] ps)(hP:PIn w q p x)(hpx:0<=placeX p.pl s)(hb:bt.length<=65538)(hrd:∀ {w2:World} {u0 v0 u1 v1 u2 v2 u3 v3 u4 v4:Value},Below w.heap.size w w2->StoIn w2 u0 v0 u1 v1 u2 v2 u3 v3 u4 v4 (Z 0) (Z 1) (Z 2) (Z 3) (Z 4)->RT 47 #[.agg #[u0,v0,u1,v1,u2,v2,u3,v3,u4,v4,i6 lf],sv p.nm] w2 (stZ Z fun a b c d e f g h i j=>.ret (.tuple #[.agg #[a,cond c0 (tkV (Z 0) b) b,c,cond c1 (tkV (Z 1) d) d,e,cond c2 (tkV (Z 2) f) f,g,cond c3 (tkV (Z 3) h) h,i,cond c4 (tkV (Z 4) j) j,i6 left2],sv bt,i6 eC]))):RT 9 #[.agg (vltL q N lf).toArray,sv s] w (stZ Z fun a b c d e f g h i j=>kyK D fun r y=>.row 88 5 refs.length (refsC refs) fun x=>.row 158 3 p.pl.length (plsC p.pl) fun xx=>.row 118 2 1 [tx p.nm,xx] fun z=>.row 161 34 0 [] fun t=>.row 101 2 ([]:List Bx).length (bxsC ([]:List Bx)) fun pd=>.row 9 1 ps.length (txs ps) fun pn=>.ret (.tuple #[.agg #[a,cond c0 (tkV (Z 0) b) b,c,cond c1 (tkV (Z 1) d) d,e,cond c2 (tkV (Z 2) f) f,g,cond c3 (tkV (Z 3) h) h,i,cond c4 (tkV (Z 4) j) j,i6 left2,r,y,i6 N,i6 0,x,z,i6 3,i6 2,i6 1,i6 1,t,pd,pn],.string ⟨(gotS D bt eC p.nm s).1.toArray⟩,i6 (gotS D bt eC p.nm s).2])):=by
 refine enter Tryz.func9 ?_
 obtain⟨k0,k1,k2,k3,k4,k5,k6,k7,k8,k9⟩:=hV.s.one
 have o_r:=hV.r.one
 have o_y:=hV.y.one
 have o_x:=hV.x.one
 have o_t:=hV.t.one
 have o_pd:=hV.pd.one
 have o_pn:=hV.pn.one
 have o_z:=hP.z.one
 have hZ:=hV.zz
 refine rg (ba (fun g0=>?_))
 refine aa Tryz.zeroValue50 (fun g1=>p2 .as .as (en (kM 1 #[q.a,q.b,q.c,q.d,q.e,q.f,q.g,q.h,q.i,q.j,i6 lf,q.r,q.y,i6 N,i6 0,q.x,q.z,i6 3,i6 2,i6 1,i6 1,q.t,q.pd,q.pn] ?_)))
 refine rg (p1 .lw (ce (fun _ _ h=>cvl1 (q:=q) hK.ok (hV.below h.m.below) (hP.below h.m.below)) (fun na nb nc nd ne nf ng nh ni nj nr ny nx nxx nz nt np nq=>?_)))
 refine osL 18 ?_
 iterate 36 intro
 refine p1 .mv (ce (fun _ _ h=>vget (q:=⟨na,nb,nc,nd,ne,nf,ng,nh,ni,nj,nr,ny,nx,nz,nt,np,nq⟩) (x:=nxx) (bt:=bt) (hK.below h.m.below) ⟨⟨⟨h.s 0,h.s 1,(hZ 0 (by decide)).1,(hZ 0 (by decide)).2⟩,⟨h.s 2,h.s 3,(hZ 1 (by decide)).1,(hZ 1 (by decide)).2⟩,⟨h.s 4,h.s 5,(hZ 2 (by decide)).1,(hZ 2 (by decide)).2⟩,⟨h.s 6,h.s 7,(hZ 3 (by decide)).1,(hZ 3 (by decide)).2⟩,⟨h.s 8,h.s 9,(hZ 4 (by decide)).1,(hZ 4 (by decide)).2⟩⟩,h.s 10,h.s 11,h.s 12,h.s 15,h.s 16,h.s 17,hV.lx,hV.lb,hV.lp⟩ ⟨h.s 14,h.s 13,hP.l⟩ hpx hb (fun h3=>hrd (h.m.below.trans (h3.mono h.m.below.size)) (StoIn.below ⟨⟨h.s 0,h.s 1,(hZ 0 (by decide)).1,(hZ 0 (by decide)).2⟩,⟨h.s 2,h.s 3,(hZ 1 (by decide)).1,(hZ 1 (by decide)).2⟩,⟨h.s 4,h.s 5,(hZ 2 (by decide)).1,(hZ 2 (by decide)).2⟩,⟨h.s 6,h.s 7,(hZ 3 (by decide)).1,(hZ 3 (by decide)).2⟩,⟨h.s 8,h.s 9,(hZ 4 (by decide)).1,(hZ 4 (by decide)).2⟩⟩ h3))) (fun wa wb wc wd we wf wg wh wi wj=>?_))
 refine os 0 (fun owa cwa=>?_)
 refine os 1 (fun owb cwb=>?_)
 refine os 2 (fun owc cwc=>?_)
 refine os 3 (fun owd cwd=>?_)
 refine os 4 (fun owe cwe=>?_)
 refine os 5 (fun owf cwf=>?_)
 refine os 6 (fun owg cwg=>?_)
 refine os 7 (fun owh cwh=>?_)
 refine os 8 (fun owi cwi=>?_)
 refine os 9 (fun owj cwj=>?_)
 have oc0:=cond_one (b:=c0) (tkV_one (s:=Z 0) owb) owb
 have oc1:=cond_one (b:=c1) (tkV_one (s:=Z 1) owd) owd
 have oc2:=cond_one (b:=c2) (tkV_one (s:=Z 2) owf) owf
 have oc3:=cond_one (b:=c3) (tkV_one (s:=Z 3) owh) owh
 have oc4:=cond_one (b:=c4) (tkV_one (s:=Z 4) owj) owj
 refine p3 .ext .ext .ext (sw 0 ?_)
 exact p2 .as .as (en (rt (et [0,1,2,3,4,5,6,7,8,9,20,21,22,23,24,25,26,27])))
section
attribute [local irreducible] sumS rtObj manB rowS
theorem kBegun {D:KyD}{w:World}(hK:EnvK D w):RT 6 #[.agg (cells8 D.k),.agg (cells8 D.no),i6 (-1)] w (stZ (kZ1 D) fun a b c d e f g h i j=>kyK D fun r y=>.row 71 33 5 D.sh fun sh=>.ret (.tuple #[.agg (vltC ⟨a,b,c,d,e,f,g,h,i,j,r,y,nv,nv,nv,nv,nv⟩ 1).toArray,sh,i6 0])) :=
 tbegY (da:=kD1 D) hK fun hb=>vNew (hK.below hb) kOk1 kB1 kLen1 fun i _=>kPut1 hK.ok i
theorem z23 {D:KyD}(h:KyOk D)(dt:List UInt8)(i:Nat):pZ (fun i=>pZ (kZ1 D) (D.pnm (D.mkp (kL2 D dt))) (pkD D (kL2 D dt) (kqR D (kL2 D dt))) i) (nameR 2) (fun _=>kD2 D dt) i=kZ3 D dt i:=by
 show pShf (pZ _ _ _ i) _ _=_
 rw[z2_eq h];exact z3_eq D dt i
theorem kCommit {D:KyD}{w:World}{q:Vv}{vs:Value}{dt:List UInt8}(hK:EnvK D w)(hd:dt.length<=600)(hV:VIn D w q (kZ1 D) [] (kL1 D dt) [D.nm dt])(hP:Sl w q.z 2 0 [])(hS:Sl w vs 1 1 (txs [D.nm dt])):RT 12 #[.agg (vltC q 1).toArray,.agg (snapL 1 vs).toArray] w (stZ (kZ3 D dt) fun a b c d e f g h i j=>kyK D fun r y=>.row 88 5 1 (refsC [kqM D dt]) fun x=>.row 158 3 (pkF D (kL2 D dt)).pl.length (plsC (pkF D (kL2 D dt)).pl) fun xx=>.row 118 2 1 [tx (pkF D (kL2 D dt)).nm,xx] fun z=>.row 161 34 0 [] fun t=>.row 9 1 (pinS [D.nm dt] (kqM D dt)).length (txs (pinS [D.nm dt] (kqM D dt))) fun pn=>.ret (.tuple #[.agg (vltC ⟨a,b,c,d,e,f,g,h,i,j,r,y,x,z,t,nv,pn⟩ 2).toArray,i6 0])):=by
 have ok:=hK.ok
 have key:∀ Z:Nat->Shf,(∀ i,pZ (fun i=>pZ (kZ1 D) (D.pnm (D.mkp (kL2 D dt))) (pkD D (kL2 D dt) (kqR D (kL2 D dt))) i) (nameR 2) (fun _=>kD2 D dt) i=Z i)->RT 12 #[.agg (vltC q 1).toArray,.agg (snapL 1 vs).toArray] w (stZ Z fun a b c d e f g h i j=>kyK D fun r y=>.row 88 5 1 (refsC [kqM D dt]) fun x=>.row 158 3 (pkF D (kL2 D dt)).pl.length (plsC (pkF D (kL2 D dt)).pl) fun xx=>.row 118 2 1 [tx (pkF D (kL2 D dt)).nm,xx] fun z=>.row 161 34 0 [] fun t=>.row 9 1 (pinS [D.nm dt] (kqM D dt)).length (txs (pinS [D.nm dt] (kqM D dt))) fun pn=>.ret (.tuple #[.agg (vltC ⟨a,b,c,d,e,f,g,h,i,j,r,y,x,z,t,nv,pn⟩ 2).toArray,i6 0])):=fun Z hZ=>by
  rw[stZ,←hZ 0,←hZ 1,←hZ 2,←hZ 3,←hZ 4]
  have hb:=kBx2 ok hd
  exact vCommit (ckn:=D.nm dt) (r:=kqR D (kL2 D dt)) hK hV hP hS ⟨by simp,fun s hs=>by rw[List.mem_singleton.1 hs,ok.nm];exact⟨by decide,ok.nmo dt⟩⟩ (kWait D dt) (by show 1<2^36-1;decide) (Nat.le_trans man_len (by decide)) (by
    have h1:=ok.bx dt
    have h2:=ok.bx (manB 1 (D.nm dt))
    have h3:=man_len (x:=D.nm dt)
    show _+((D.bx dt).length+0)<=_
    omega) hb (kR_eq D _) (fun i hi=>kPut2 ok hb i hi) (by have:=pl_le ok hb;show(D.pl (kL2 D dt)).length<2^36;omega) (rtok2 ok hb (ok.nm _) (ok.nmo _) _) (fun x=>rtb2 ok hb (ok.nm _) x) (kLen2 ok hb (ok.nm _)) (fun i hi=>by
    show PutOk (pZ (kZ1 D) (D.pnm (D.mkp (kL2 D dt))) (pkD D (kL2 D dt) (kqR D (kL2 D dt))) i) (nameR 2) (kD2 D dt)
    rw[z2_eq ok];exact kPut3 ok hd i hi)
 exact key (kZ3 D dt) (z23 ok dt)
theorem nameR2t :nameR 2=rootT ++ [48,48,48,48,48,48,48,50]:=by rw[nameR2];rfl
theorem kOpen {D:KyD}{w:World}{u0 v0 u1 v1 u2 v2 u3 v3 u4 v4 u:Value}{dt:List UInt8}(hK:EnvK D w)(hd:dt.length<=600)(hS:StoIn w u0 v0 u1 v1 u2 v2 u3 v3 u4 v4 (kZ3 D dt 0) (kZ3 D dt 1) (kZ3 D dt 2) (kZ3 D dt 3) (kZ3 D dt 4))(hU:Sl w u 33 3 D.s3):RT 14 #[.agg #[u0,v0,u1,v1,u2,v2,u3,v3,u4,v4,i6 (-1)],u] w (stZ (kZ4 D dt) fun a b c d e f g h i j=>kyK D fun r y=>rtK 2 (kqM D dt) (pkF D (kL2 D dt)) fun x z t=>.ret (.tuple #[.agg (vltC ⟨a,b,c,d,e,f,g,h,i,j,r,y,x,z,t,nv,nv⟩ 2).toArray,i6 0])):=by
 have ok:=hK.ok
 have hb:=kBx2 ok hd
 have key:∀ Z:Nat->Shf,(∀ i,pZ (kZ3 D dt) (nameR 2) (fun _=>kD2 D dt) i=Z i)->RT 14 #[.agg #[u0,v0,u1,v1,u2,v2,u3,v3,u4,v4,i6 (-1)],u] w (stZ Z fun a b c d e f g h i j=>kyK D fun r y=>rtK 2 (kqM D dt) (pkF D (kL2 D dt)) fun x z t=>.ret (.tuple #[.agg (vltC ⟨a,b,c,d,e,f,g,h,i,j,r,y,x,z,t,nv,nv⟩ 2).toArray,i6 0])):=fun Z hZ=>by
  rw[stZ,←hZ 0,←hZ 1,←hZ 2,←hZ 3,←hZ 4]
  have e:=nameR2t
  have hn:=kNms D dt
  have h1:=fun i hi=>kTold3 ok hd i hi
  have h2:=fun i hi=>kPut4 ok hd i hi
  have h3:∀ {w:World} {u:Value},EnvK D w->Sl w u 33 3 D.s3->RT 76 #[sv (nameR 2),sv (kD2 D dt),u] w (kyK D fun a b=>rtK 2 (kqM D dt) (pkF D (kL2 D dt)) fun c d e=>.ret (.agg (votC 2 a b c d e).toArray)):=fun hK2 hU2=>ropen hK2 hU2 (kOf2 ok hb (ok.nm _) (ok.nmo _)) (kLen2 ok hb (ok.nm _))
  rw[e] at hn h1 h2 h3 ⊢
  exact vOpen hK hS hU (fun i hi=>kNm3 ok hd i hi) (fun i hi=>kShB3 ok hd i hi) (fun _ _=>rfl) h1 h2 hn (by decide) rfl (by decide) (by decide) (kd2_len ok hd) h3
 exact key (kZ4 D dt) (z4_eq D dt)
theorem kGet {D:KyD}{w:World}{q:Vv}{refs:List (List UInt8)}{ps:List (List UInt8)}{x:Value}{dt:List UInt8}(hK:EnvK D w)(hr:KyRt D)(hd:dt.length<=600)(hV:VIn D w q (kZ4 D dt) refs [] ps)(hP:PIn w q (pkF D (kL2 D dt)) x):RT 9 #[.agg (vltC q 2).toArray,sv (D.nm dt)] w (stZ (kZ4 D dt) fun a b c d e f g h i j=>kyK D fun r y=>.row 88 5 refs.length (refsC refs) fun x=>.row 158 3 (pkF D (kL2 D dt)).pl.length (plsC (pkF D (kL2 D dt)).pl) fun xx=>.row 118 2 1 [tx (pkF D (kL2 D dt)).nm,xx] fun z=>.row 161 34 0 [] fun t=>.row 101 2 ([]:List Bx).length (bxsC ([]:List Bx)) fun pd=>.row 9 1 ps.length (txs ps) fun pn=>.ret (.tuple #[.agg #[a,cond true (tkV (kZ4 D dt 0) b) b,c,cond true (tkV (kZ4 D dt 1) d) d,e,cond true (tkV (kZ4 D dt 2) f) f,g,cond true (tkV (kZ4 D dt 3) h) h,i,cond true (tkV (kZ4 D dt 4) j) j,i6 (-1),r,y,i6 2,i6 0,x,z,i6 3,i6 2,i6 1,i6 1,t,pd,pn],sv dt,i6 0])):=by
 have ok:=hK.ok
 have hb:=kBx2 ok hd
 have hm:=ok.mkp _ hb
 have h:=vGet (N:=2) (lf:=-1) (left2:=-1) (s:=D.nm dt) (bt:=D.mkp (kL2 D dt)) (eC:=0) (c0:=true) (c1:=true) (c2:=true) (c3:=true) (c4:=true) hK hV hP (kPlX ok hb (b:=(D.nm dt,D.bx dt)) kMem) (by omega) (fun h3 hS3=>sreadH (hK.e.below h3) hS3 (by have:=pnm_len ok (D.mkp (kL2 D dt));show 1<=(D.pnm _).length/\(D.pnm _).length<=100;omega) (by omega) (kR_eq D _) (fun i hi=>kShB4 ok hd i hi) (fun _ _=>rfl) (fun i hi=>kTold4 ok hd i hi))
 have hg:=kGot ok hr hd
 rw[show(pkF D (kL2 D dt)).nm=D.pnm (D.mkp (kL2 D dt)) from rfl,hg] at h
 exact h
end
theorem tsnap {ad:Option Addr}{n c:Nat}{w:World}:RV 13 #[.string ⟨List.toArray [109]⟩,i6 1,.slice ad n c] w (.agg (snapL 1 (.slice ad n c)).toArray):=by
 refine enter Tryz.func13 ?_
 refine rg (aa Tryz.zeroValue67 (fun g0=>en (rg (p3 .mv .mv .mv (pp (PR.bd #[.slice ad n c,nv,nv]) (pp (PR.bd #[.string ⟨List.toArray [109]⟩,i6 1,i6 0,.int .u64 0,i6 1,i6 1,.slice ad n c,nv,nv,.int .u8 0,.int .u8 0,.int .u8 0,.int .u8 0,.int .u8 0,.int .u8 0,.int .u8 0,.int .u8 0,.int .u8 0,.int .u8 0,.int .u8 0,.int .u8 0,.int .u8 0,.int .u8 0,.int .u8 0,.int .u8 0,.int .u8 0,.int .u8 0,.int .u8 0,.int .u8 0,.int .u8 0,.int .u8 0,.int .u8 0,.int .u8 0,.int .u8 0,.int .u8 0,.int .u8 0,.int .u8 0,.int .u8 0,.int .u8 0,.int .u8 0,.int .u8 0]) (sw 0 ?_)))))))
 exact en (rt qv)
def tameO (o:Ob):Bool:=decide (o.da.length<=2000/\o.wa.length<=2000/\o.nm.length<=200)
def tameS (z:Shf):Bool:=z.objs.all tameO&&(decide ((z.objs.length:Int)<=20)&&decide ((z.fates.length:Int)<=200))
theorem tameS_no {z:Shf}{i:Nat}(h:i<z.objs.length)(hx:tameO (z.objs.getD i noOb)=false):tameS z=false:=by
 unfold tameS
 rw[List.getD_eq_getElem?_getD,List.getElem?_eq_getElem h,Option.getD_some] at hx
 cases ha:z.objs.all tameO with
 | false=>rfl
 | true=>rw[List.all_eq_true.1 ha _ (List.getElem_mem h)] at hx;cases hx
theorem tameS_all {z:Shf}(h:∀ j,j<z.objs.length->tameO (z.objs.getD j noOb)=true):tameS z=(decide ((z.objs.length:Int)<=20)&&decide ((z.fates.length:Int)<=200)):=by
 unfold tameS
 rw[show z.objs.all tameO=true from List.all_eq_true.2 fun x hx=>by
  obtain⟨i,hi,rfl⟩:=List.mem_iff_getElem.1 hx
  have:=h i hi
  rwa[List.getD_eq_getElem?_getD,List.getElem?_eq_getElem hi,Option.getD_some] at this,Bool.true_and]
structure ShfW (w:World)(u v:Value)(s:Shf):Prop where
 o:Sl w u 4 s.objs.length (obs s.objs)
 f:Sl w v 1 s.fates.length (nts s.fates)
 ho:s.objs.length<=9223372036854775807
 hf:s.fates.length<=9223372036854775807
theorem ShfW.below {w w2:World}{u v:Value}{s:Shf}(h:ShfW w u v s)(hb:Below w.heap.size w w2):ShfW w2 u v s:=⟨h.o.below hb,h.f.below hb,h.ho,h.hf⟩
structure StoW (w:World)(u0 v0 u1 v1 u2 v2 u3 v3 u4 v4:Value)(Z:Nat->Shf):Prop where
 a0:ShfW w u0 v0 (Z 0)
 a1:ShfW w u1 v1 (Z 1)
 a2:ShfW w u2 v2 (Z 2)
 a3:ShfW w u3 v3 (Z 3)
 a4:ShfW w u4 v4 (Z 4)
theorem StoW.one {w:World}{u0 v0 u1 v1 u2 v2 u3 v3 u4 v4:Value}{Z:Nat->Shf}(h:StoW w u0 v0 u1 v1 u2 v2 u3 v3 u4 v4 Z):u0.oneCell'=true/\v0.oneCell'=true/\u1.oneCell'=true/\v1.oneCell'=true/\u2.oneCell'=true/\v2.oneCell'=true/\u3.oneCell'=true/\v3.oneCell'=true/\u4.oneCell'=true/\v4.oneCell'=true :=
 ⟨h.a0.o.one,h.a0.f.one,h.a1.o.one,h.a1.f.one,h.a2.o.one,h.a2.f.one,h.a3.o.one,h.a3.f.one,h.a4.o.one,h.a4.f.one⟩
theorem tameS_len {z:Shf}(h:tameS z=true):z.objs.length<=20/\z.fates.length<=200 ∧ ∀ o∈z.objs,o.da.length<=2000/\o.wa.length<=2000:=by
 unfold tameS at h
 rw[Bool.and_eq_true,Bool.and_eq_true] at h
 have h1:=of_decide_eq_true h.2.1
 have h2:=of_decide_eq_true h.2.2
 exact⟨by omega,by omega,fun o ho=>⟨(of_decide_eq_true (List.all_eq_true.1 h.1 o ho)).1,(of_decide_eq_true (List.all_eq_true.1 h.1 o ho)).2.1⟩⟩
theorem StoW.tame {w:World}{u0 v0 u1 v1 u2 v2 u3 v3 u4 v4:Value}{Z:Nat->Shf}(h:StoW w u0 v0 u1 v1 u2 v2 u3 v3 u4 v4 Z)(ht:∀ i,i<5->tameS (Z i)=true):StoIn w u0 v0 u1 v1 u2 v2 u3 v3 u4 v4 (Z 0) (Z 1) (Z 2) (Z 3) (Z 4):=by
 have k:∀ i,i<5->(Z i).objs.length<2^36/\(Z i).fates.length<2^36:=fun i hi=>by
  have:=tameS_len (ht i hi)
  omega
 exact⟨⟨h.a0.o,h.a0.f,(k 0 (by decide)).1,(k 0 (by decide)).2⟩,⟨h.a1.o,h.a1.f,(k 1 (by decide)).1,(k 1 (by decide)).2⟩,⟨h.a2.o,h.a2.f,(k 2 (by decide)).1,(k 2 (by decide)).2⟩,⟨h.a3.o,h.a3.f,(k 3 (by decide)).1,(k 3 (by decide)).2⟩,⟨h.a4.o,h.a4.f,(k 4 (by decide)).1,(k 4 (by decide)).2⟩⟩
theorem ttame {u v:Value}{z:Shf}{w:World}(hS:ShfW w u v z):RV 5 #[.agg #[u,v]] w (.bool (tameS z)):=by
 refine enter Tryz.func5 ?_
 have o_u:=hS.o.one
 have o_v:=hS.f.one
 have ho:=hS.ho
 have hf:=hS.hf
 refine rg (ba (fun g0=>?_))
 refine p1 .as (en (se (rg (p2 .fa .ld (pp (PR.lr (hs:=SL.p hS.o)) (p1 .mv (en (bl (lo (A:=Nat) (fun i=>i<=z.objs.length ∧ ∀ j,j<i->tameO (z.objs.getD j noOb)=true) (fun i=>z.objs.length-i) (fun i=>[(1,pt g0),(2,.bool false),(6,u),(7,i6 (z.objs.length:Int)),(8,i6 (i:Int))]) (fun i=>[(g0,isB 28 #[u,v])]) (fun i=>[]) 0 ⟨Nat.zero_le _,fun _ h=>absurd h (Nat.not_lt_zero _)⟩ su (fun i hi=>?_))))))))))
 refine r1 .lss (se (sd (fun hlt=>?_) (fun hlt=>?_)))
 ·skip
  refine sk (nN (se (bl ?_)))
  have hlt0:i<z.objs.length:=by omega
  obtain⟨hx1,hxm⟩:=getD_memX (d:=noOb) hlt0
  refine rg (pp (PR.ix (i:=i) (hs:=SL.p hS.o)) (pp (PR.lq (ys:=obC (z.objs.getD i noOb)) (fun q u hu=>obs_at hx1 q hu) (hs:=SL.p hS.o)) (aa Tryz.zeroValue73 (fun g1=>sw 0 ?_))))
  refine en (rg (p5 .fa .ld .ln .gtr .mv (gFf (hp:=PR.fa (EV.u (EV.t rfl))) ?_)))
  refine gFf (hp:=PR.ld (EV.b (EV.t rfl))) ?_
  refine gFf (hp:=PR.ln (EV.b (EV.t rfl))) ?_
  refine gFf (hp:=PR.gtr (EV.b (EV.t rfl)) EV.k) ?_
  refine p2 .por .mv (gFf (hp:=PR.fa (EV.u (EV.t rfl))) ?_)
  refine gFf (hp:=PR.ld (EV.b (EV.t rfl))) ?_
  refine gFf (hp:=PR.ln (EV.b (EV.t rfl))) ?_
  refine gFf (hp:=PR.gtr (EV.b (EV.t rfl)) EV.k) ?_
  refine p1 .por (en (cs (fun hb=>?_) (fun hb=>?_)))
  ·rw[tameS_no (i:=i) hlt0 (by unfold tameO;simp at hb ⊢;omega)]
   exact r1 .as (rt (bR (nR (nR (bR (nR (q1 rfl)))))))
  ·skip
   exact sk (bN (nN (rg0 (pp (PR.ad ((i+1:Nat):Int)) (p1 .mv (en0 (nN (bk (i+1) ⟨by omega,lt_succ hi.2 (by unfold tameO;simp at hb ⊢;omega)⟩ (by omega) su))))))))
 ·have hil:i=z.objs.length:=by omega
  subst hil
  rw[tameS_all hi.2]
  refine xt (nX (nX (bH (nN (rg (p2 .fa .ld (pp (PR.lr (hs:=SL.p hS.o)) (p2 .leq .mv (gTt (hp:=PR.fa (EV.u (EV.t rfl))) ?_)))))))))
  refine gTt (hp:=PR.ld (EV.b (EV.t rfl))) ?_
  refine gTt (hp:=PR.lr (EV.b (EV.t rfl)) (hs:=SL.u (SL.p hS.f))) ?_
  refine gTt (hp:=PR.leq (EV.b (EV.t rfl)) EV.k) ?_
  exact p2 .pand .as (en (rt (q1 rfl)))
section
section
variable {D:List Deferred}{nt:Nat}{w0:World}{L:LT}{M:MT}{R:List Rw}{l:List Oper}{KL:List Kp}{AL:List NewZ}{BL:List OldQ}{js:List Nat}{Bs i j s d m n:Nat}{e ty:TypeId}{xs:List Value}{ps:String}{af:Array Edge}{es:List TypeId}
theorem oCr {G:Kn}{f:FuncId}{ys:List Operand}{vs:List Value}{ts:Array TypeId}{u:Value}(g:Value)(hc:∀ a w,QY G s u Bs [⟨u,e,m,n,xs⟩] a w->Calls Tryz.prog f vs.toArray w fun e w'=>e = .returned g/\Below w.heap.size w w')(hx:EVs (QY G s u Bs [⟨u,e,m,n,xs⟩]) ys vs)(T:Value->Value)(hT:T u=g)(hg:(match Tryz.prog.funcs[f]? with | some fn=>!(fn.name == "runtime.NumGoroutine")&&fn.body.isSome | none=>false)=true:=by kernel_rfl):OPd Tryz.prog (QY G s u Bs [⟨u,e,m,n,xs⟩]) ⟨some d,.call { callee:=.value (.func f),args:=ys.toArray,argTypes:=ts },ty,ps,af,none⟩ l (.tel [e] (.row e m n xs fun v=>.ret (T v))) Bs:=fun a W h=>by
 refine .inl ⟨wanted_yes rfl,?_⟩
 have hrun:=run_callK (w:=W) (o:=⟨some d,.call { callee:=.value (.func f),args:=ys.toArray,argTypes:=ts },ty,ps,af,none⟩) rfl hg (hx.arr h)
 rw[hrun]
 refine(hc a W h).mono ?_
 rintro en w' ⟨h1,h2⟩
 have hO:=h.2.2 _ (List.mem_singleton.2 rfl)
 exact⟨g,h1,h2,⟨by simp,fun _=>trivial⟩,u,⟨hO.1,hO.2.imp id fun⟨q,cap,cur,h3,h4,h5,h6⟩=>⟨q,cap,cur,h3,h4,(h2.block q (lt_of_ob h5)).trans h5,h6⟩⟩,by simp,hT.symm⟩
end
end
section
attribute [local irreducible] sumS rtObj manB
theorem oSnap {D:List Deferred}{nt:Nat}{w0:World}{L:LT}{M:MT}{R:List Rw}{l:List Oper}{KL:List Kp}{AL:List NewZ}{BL:List OldQ}{js:List Nat}{Bs i j d:Nat}{ty:TypeId}{ps:String}{af:Array Edge}{s:Nat}{ts:Array TypeId}{xs:List Value}(hj:dIdx l s 0=some j)(hK:KL.getD j .any = .tel [9] (.row 9 1 1 xs fun v=>.ret v))(hb:depB l i j s=true)(hA:(AL.all fun d=>!(Nat.beq d.iA j))=true):OPd Tryz.prog (QZ D nt w0 L M R l KL AL BL js Bs i) ⟨some d,.call { callee:=.value (.func 13),args:=#[.const (.string ⟨List.toArray [109]⟩),.const (i6 1),.tmp s],argTypes:=ts },ty,ps,af,none⟩ l (.tel [9] (.row 9 1 1 xs fun v=>.ret (.agg (snapL 1 v).toArray))) Bs :=
 oO1 (s:=s) (fun _ _ h=>h) (fun v=>fun a W h=>by
  obtain⟨ad,n,c,rfl⟩:=own_slice (h.2.2 _ (List.mem_singleton.2 rfl))
  exact oCr (ys:=[.const (.string ⟨List.toArray [109]⟩),.const (i6 1),.tmp s]) (vs:=[.string ⟨List.toArray [109]⟩,i6 1,.slice ad n c]) (.agg (snapL 1 (.slice ad n c)).toArray) (fun _ _ _=>tsnap) (.cons EV.k (.cons EV.k (.cons EV.qq .nil))) (fun v=>.agg (snapL 1 v).toArray) rfl (by kernel_rfl) a W h) hj hK hb hA
end
end Go.Proofs.YtdjholkjkbihmaaGreatDoor
