/- What the bound of an upto-statement gives. -/
import Derived.Test.YtegdcifghaldoaaDoorRows
import Derived.Test.YtegdcifghaldoaaDoorTb
import Derived.Test.YtegdcifghaldoaaDoorTd
namespace Go.Proofs.YtegdcifghaldoaaDoor
set_option linter.all false
open Go.Ab Go.RowKit

open Go.ChangeShapes Go.Deep
section
variable {H:Type} {enc:TypeId×Value→H} {W:World}
theorem bulk_one(d:DataW H):1≤Rows.uptoBulk d:=by
  cases d with
  |lit l=>cases l<;>simp[Rows.uptoBulk]
  |nil=>simp[Rows.uptoBulk]
  |ptr d=>simp[Rows.uptoBulk]
  |slice elems spare=>simp[Rows.uptoBulk]
  |agg parts=>simp[Rows.uptoBulk]
  |iface t d=>simp[Rows.uptoBulk]
  |map entries=>simp[Rows.uptoBulk]
  |held h=>simp[Rows.uptoBulk]
theorem zg7{d:DataW H}:∀ {l:List (DataW H)},d∈l→Rows.uptoBulk d≤Rows.uptoBulkAll l
  | x::r,h=>by
    simp only[Rows.uptoBulkAll]
    rcases List.mem_cons.1 h with e|e
    · rw[e];omega
    · have:=zg7 e;omega
theorem zke:∀ l:List (DataW H),l.length≤Rows.uptoBulkAll l
  |[]=>by simp[Rows.uptoBulkAll]
  | x::r=>by
    have h1:=bulk_one x
    have h2:=zke r
    simp only[Rows.uptoBulkAll,List.length_cons];omega
theorem zpm{t e:TypeId}(ht:Tryd.prog.underlying t=some (.slice e)){v:Value}{n:Nat}{c:Cont}{x:DataW H×List MemPlace}{fuel:Nat}(hd:CellD (oldI W) W (.ds n c) v)(h:DataW.trod enc Tryd.prog W 0 (fun _=>true) true fuel t [v]=some x):n≤Rows.uptoBulk x.1:=by
  obtain⟨a,cap,rfl,-,-⟩:=CellD.ds_inv hd
  rcases DataW.trod_slice ht h with⟨e1,rfl⟩|⟨a',len,cap',elems,rest,m,-,e1,rfl,-,-,-,hl,-⟩
  · cases e1;exact Nat.zero_le _
  · cases e1
    have h1:=zke (elems.map (·.1))
    rw[List.length_map]at h1
    simp only[Rows.uptoBulk]
    omega
theorem zed{t e:TypeId}(ht:Tryd.prog.underlying t=some (.slice e)){v:Value}{n:Nat}{c:Cont}{d:DataW H}{p:List MemPlace}(hd:CellD (oldI W) W (.ds n c) v)(h:DataW.Trod enc Tryd.prog W 0 (fun _=>true) true t v d p):n≤Rows.uptoBulk d:=by
  obtain⟨a,cap,rfl,-,-⟩:=CellD.ds_inv hd;obtain⟨fuel,h⟩:=h;exact zpm ht hd h
theorem zll {t e q:TypeId} (ht:Tryd.prog.underlying t=some (.slice e)) (hc:Tryd.prog.cellsOf e=1) (he:Tryd.prog.underlying e=some (.slice q)) {v:Value} {ps:List (List UInt8)} {d:DataW H} {p:List MemPlace} (hd:CellD (oldI W) W (.ds ps.length (.cells (ps.map fun p=>.ds p.length (.u8s p)))) v) (h:DataW.Trod enc Tryd.prog W 0 (fun _=>true) true t v d p):∀ x∈ps,x.length≤Rows.uptoBulk d:=by
  intro x hx;obtain⟨j,hj,rfl⟩:=List.getElem_of_mem hx;obtain⟨a,cap,rfl,-,h0⟩:=CellD.ds_inv hd;obtain⟨fuel,h⟩:=h
  have hlen:(Cont.cells (ps.map fun p=>Cell.ds p.length (.u8s p))).len=ps.length:=by show(ps.map _).length=_;rw[List.length_map]
  rcases h0 with⟨h1,_⟩|⟨b,off,rfl,-,hdat⟩
  · rw[hlen]at h1;omega
  · rcases open_slice1 ht hc h with⟨e1,_⟩|⟨a',len,cap',m,n,V,D,Pl,e1,-,hl,-,hm,e2,hx'⟩
    · cases e1
    · cases e1
      simp only[if_true]at hm
      obtain⟨rfl,-⟩:=Prod.mk.inj e2;obtain⟨y,hy,hc'⟩:=hdat j (by rw[hlen];exact hj)
      have hml:ps.length≤m:=by omega
      obtain⟨h3,h4⟩:=hx' j (by omega)
      have ea:(⟨b,off,none⟩:Addr).add j=⟨b,off+j,none⟩:=by
        unfold Addr.add
        split
        · rename_i h;rw[h];rfl
        · rfl
      rw[ea,hy]at h3;cases h3
      have hg:(Cont.cells (ps.map fun p=>Cell.ds p.length (.u8s p))).get j= .ds (ps[j]).length (.u8s ps[j]):=by
        simp[Cont.get,List.getD_eq_getElem?_getD,hj]
      rw[hg]at hc'
      have h5:(ps[j]).length≤Rows.uptoBulk (D j):=zpm he hc' h4
      have h6:D j∈(List.range ps.length).map D:=List.mem_map.2 ⟨j,List.mem_range.2 hj,rfl⟩
      have h7:=zg7 h6
      simp only[Rows.uptoBulk]
      have h8:(D j,Pl j).1=D j:=rfl
      omega
end

end Go.Proofs.YtegdcifghaldoaaDoor
