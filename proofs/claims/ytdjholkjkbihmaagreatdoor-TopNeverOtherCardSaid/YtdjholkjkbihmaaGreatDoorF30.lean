/- Laws and walks of TopNeverOther. -/
import Derived.Lib.LaidTab
import Derived.OpenShut
import Derived.Stop.LaidErr
import Derived.Test.YtdjholkjkbihmaaGreatDoorF21
namespace Go.Proofs.YtdjholkjkbihmaaGreatDoor
open Go.RowKit
set_option maxRecDepth 100000
set_option maxHeartbeats 4000000

theorem var_heap {P:Program}{W:World}{name:String}{g:Nat}{cs:Array Value}(hg:P.globalNamed name=some g)(h:W.var? P name=some cs):∃ t fr,W.heap[g]?=some (.cells cs t fr):=by
 unfold World.var? at h
 rw[hg] at h
 simp only[Option.bind_some] at h
 split at h
 ·rename_i c t fr e
  injection h with h
  subst h
  exact⟨_,_,e⟩
 ·cases h
theorem gEight :Tryz.prog.globalNamed "hibernacle/hash.eight" = some 0:=by kernel_rfl
theorem gEightT :(Tryz.prog.globals[0]?).map (·.type)=some 125:=by kernel_rfl
theorem gRows :Tryz.prog.globalNamed "hibernacle/hash.rows" = some 1:=by kernel_rfl
theorem gRowsT :(Tryz.prog.globals[1]?).map (·.type)=some 294:=by kernel_rfl
theorem co32 :Tryz.prog.cellsOf 124 = 1:=by kernel_rfl
theorem co8w :Tryz.prog.cellsOf 125 = 8:=by kernel_rfl
theorem co8 :Tryz.prog.cellsOf 5 = 1:=by kernel_rfl
theorem co16b :Tryz.prog.cellsOf 293 = 16:=by kernel_rfl
theorem co160 :Tryz.prog.cellsOf 294 = 160:=by kernel_rfl
theorem eight_cells {W:World}{rest:List (String×DataW Unit)}(h:laidMet Tryz.prog (("hibernacle/hash.eight",Rows.laid_hibernacle_hash_eight)::rest) W):∃ t fr,W.heap[0]?=some (.cells (cells eightV) t fr):=by
 have hT:Lib.TabIs Tryz.prog W "hibernacle/hash.eight" .u32 [1779033703,3144134277,1013904242,2773480762,1359893119,2600822924,528734635,1541459225] :=
  Lib.tabIs_of_head (rest:=rest) gEight gEightT Tryz.underlying125 Tryz.underlying124 co32 co8w h
 exact var_heap gEight hT
theorem rows_cells {W:World}{rest:List (String×DataW Unit)}(h:laidMet Tryz.prog (("hibernacle/hash.rows",Rows.laid_hibernacle_hash_rows)::rest) W):∃ t fr,W.heap[1]?=some (.cells sigCells t fr):=by
 obtain⟨ps,⟨g',t',cs,fuel,p,q,hg',ht',hvar,hd,_,_⟩,_⟩:=h
 obtain rfl:=Option.some.inj (gRows.symm.trans hg')
 obtain rfl:=Option.some.inj (gRowsT.symm.trans ht')
 obtain⟨xs,m,rfl,hx,hlen,hxl,hall⟩:=DataW.trod_array Tryz.underlying294 hd
 have hx1:xs.map (·.1)=sigma.map (fun l=>Lib.tabData .u8 (l.map fun b:UInt8=>(b.toNat:Int))):=by
  have e1:=congrArg Prod.fst hx
  have e2:(Rows.laid_hibernacle_hash_rows:DataW Unit) = .agg (sigma.map (fun l=>Lib.tabData .u8 (l.map fun b:UInt8=>(b.toNat:Int)))):=rfl
  have e3:(DataW.agg (sigma.map (fun l=>Lib.tabData .u8 (l.map fun b:UInt8=>(b.toNat:Int)))):DataW Unit) = .agg (xs.map (·.1)):=e2.symm.trans e1
  injection e3 with e4
  exact e4.symm
 have hrow:∀ r,r<10->(cs.toList.drop (r*16)).take 16=(sigma.getD r []).map cb:=by
  intro r hr
  have h1:=hall r hr
  rw[co16b] at h1
  obtain⟨x,hxr⟩:∃ x,xs[r]?=some x:=⟨xs[r]'(by omega),List.getElem?_eq_getElem (by omega)⟩
  rw[hxr] at h1
  have h2:x.1=Lib.tabData .u8 ((sigma.getD r []).map fun b:UInt8=>(b.toNat:Int)):=by
   have h3:(xs.map (·.1))[r]?=some x.1:=by simp[hxr]
   rw[hx1] at h3
   have hs:r<sigma.length:=hr
   simp only[List.getElem?_map,List.getElem?_eq_getElem hs,Option.map_some,Option.some.injEq] at h3
   rw[←h3]
   simp[hs]
  obtain⟨x1,x2⟩:=x
  simp only at h2
  subst h2
  have h4:=Lib.cells_of_tab Tryz.underlying293 Tryz.underlying5 co8 co16b h1
  rw[h4,List.map_map]
  rfl
 have hcs:cs=sigCells:=by
  apply Array.toList_inj.1
  have hl:cs.toList.length=160:=by rw[hlen,co160]
  have hcat:∀ r,r<=10->cs.toList.take (r*16)=((sigma.take r).map (fun l=>l.map cb)).flatten:=by
   intro r
   induction r with
   | zero=>intro _;simp
   | succ r ih=>
    intro hr
    have hs:r<sigma.length:=by show r<10;omega
    rw[show(r+1)*16=r*16+16 by omega,List.take_add,ih (by omega),hrow r (by omega),List.take_succ_eq_append_getElem hs,List.map_append,List.flatten_append]
    have e:sigma.getD r []=sigma[r]:=by simp[hs]
    rw[e]
    simp only[List.map_cons,List.map_nil,List.flatten_cons,List.flatten_nil,List.append_nil]
  have h10:=hcat 10 (Nat.le_refl _)
  rw[List.take_of_length_le (by omega)] at h10
  rw[h10]
  rfl
 rw[←hcs]
 exact var_heap gRows hvar
end Go.Proofs.YtdjholkjkbihmaaGreatDoor
