/-
  SeatBulk.
-/
import Derived.Test.YtpdmcibimbjknaaGreatDoorG24
import Derived.Test.YtpdmcibimbjknaaGreatDoorRows
set_option linter.unusedVariables false
set_option linter.unusedSimpArgs false
namespace Go.Proofs.YtpdmcibimbjknaaGreatDoor
open Go.Am
set_option maxRecDepth 100000
abbrev upM:Nat:=131071
theorem Qag {e:TypeId} (he:e∈V7):Tryz.prog.bytesOf e≤65535:=by
 have h: (V7.all fun i=>decide (Tryz.prog.bytesOf i≤65535))=true:=by kernel_rfl
 simpa using List.all_eq_true.1 h e he
theorem Dj {t e:TypeId} (ht:t∈V7) (hu:Tryz.prog.underlying t=some (.slice e)):e∈V7:=by
 have hs:=List.all_eq_true.1 VS t ht;rw[hu]at hs;simp only[Bool.and_eq_true]at hs;simpa using hs.1.1
theorem Gv {t:TypeId} {fs:Array Field} (ht:t∈V7) (hu:Tryz.prog.underlying t=some (.struct fs)): ∀f∈fs.toList,f.type∈V7:=by
 have hs:=List.all_eq_true.1 VS t ht;rw[hu]at hs;simp only[Bool.and_eq_true]at hs;intro f hf;simpa using List.all_eq_true.1 hs.1 f hf
theorem QbP {t e:TypeId} (ht:t∈V7) (hu:Tryz.prog.underlying t=some (.pointer e)):False:=by
 have hs:=List.all_eq_true.1 VS t ht;rw[hu]at hs;cases hs
theorem QbN {t e:TypeId} {n:Nat} (ht:t∈V7) (hu:Tryz.prog.underlying t=some (.array n e)):False:=by
 have hs:=List.all_eq_true.1 VS t ht;rw[hu]at hs;cases hs
theorem QbO {t k e:TypeId} (ht:t∈V7) (hu:Tryz.prog.underlying t=some (.map k e)):False:=by
 have hs:=List.all_eq_true.1 VS t ht;rw[hu]at hs;cases hs
theorem Qaf {H:Type} (d:DataW H):1≤Rows.uptoBulk d:=by
 cases d with
 | lit l=>cases l <;> simp[Rows.uptoBulk]
 | _=>simp[Rows.uptoBulk]
theorem Nt {H:Type}: ∀ds:List (DataW H),ds.length≤Rows.uptoBulkAll ds
 | []=>by simp
 | d:: r=>by
  have:=Qaf d;have:=Nt r;simp only[Rows.uptoBulkAll,List.length_cons];omega
theorem TY {n a b:Nat} (h:n≤a*upM) (h2:a≤b):n≤b*upM:=Nat.le_trans h (Nat.mul_le_mul_right _ h2)
mutual
theorem Ip {H:Type}: ∀(d:DataW H) (t:TypeId) (n:Nat),t∈V7→n∈d.weights Tryz.prog t→n≤Rows.uptoBulk d*upM
 | .lit l,t,n,ht,h=>by
  cases l with
  | string b=>
   simp only[DataW.weights,List.mem_singleton]at h;subst h;simp only[Rows.uptoBulk];unfold upM;omega
  | _=>simp[DataW.weights]at h
 | .nil,t,n,ht,h=>by simp[DataW.weights]at h
 | .ptr d,t,n,ht,h=>by
  simp only[DataW.weights]at h;split at h
  ·rename_i hu;exact(QbP ht hu).elim
  ·cases h
 | .slice elems spare,t,n,ht,h=>by
  simp only[DataW.weights]at h;split at h
  ·rename_i e hu;have he:=Dj ht hu;rcases List.mem_cons.1 h with rfl | h
   ·have h1:=Nt elems;have h2:=Nt spare;have h3:=Qag he;simp only[Rows.uptoBulk];exact Nat.mul_le_mul (by omega) (by unfold upM;omega)
   ·rcases List.mem_append.1 h with h | h
    ·exact TY (bulk_all elems _ n he h) (by simp only[Rows.uptoBulk];omega)
    ·exact TY (bulk_all spare _ n he h) (by simp only[Rows.uptoBulk];omega)
  ·cases h
 | .agg parts,t,n,ht,h=>by
  simp only[DataW.weights]at h;split at h
  ·rename_i fs hu;refine TY (bulk_each parts _ n ?_ h) (by simp only[Rows.uptoBulk];omega);intro x hx;obtain⟨f,hf,rfl⟩:=List.mem_map.1 hx;exact Gv ht hu f hf
  ·rename_i hu;exact(QbN ht hu).elim
  ·cases h
 | .iface _ d,t,n,ht,h=>by simp[DataW.weights]at h
 | .map entries,t,n,ht,h=>by
  simp only[DataW.weights]at h;split at h
  ·rename_i hu;exact(QbO ht hu).elim
  ·cases h
 | .held _,t,n,ht,h=>by simp[DataW.weights]at h
theorem bulk_all {H:Type}: ∀(ds:List (DataW H)) (t:TypeId) (n:Nat),t∈V7→n∈DataW.weightsAll Tryz.prog t ds→n≤Rows.uptoBulkAll ds*upM
 | [],t,n,ht,h=>by simp[DataW.weightsAll]at h
 | d:: r,t,n,ht,h=>by
  simp only[DataW.weightsAll]at h;rcases List.mem_append.1 h with h | h
  ·exact TY (Ip d _ n ht h) (by simp only[Rows.uptoBulkAll];omega)
  ·exact TY (bulk_all r _ n ht h) (by simp only[Rows.uptoBulkAll];omega)
theorem bulk_each {H:Type}: ∀(ds:List (DataW H)) (ts:List TypeId) (n:Nat),(∀t∈ts,t∈V7)→n∈DataW.weightsEach Tryz.prog ts ds→n≤Rows.uptoBulkAll ds*upM
 | [],ts,n,ht,h=>by cases ts <;> simp[DataW.weightsEach]at h
 | d:: r,[],n,ht,h=>by simp[DataW.weightsEach]at h
 | d:: r,t:: ts,n,ht,h=>by
  simp only[DataW.weightsEach]at h;rcases List.mem_append.1 h with h | h
  ·exact TY (Ip d _ n (ht t (List.mem_cons_self ..)) h) (by simp only[Rows.uptoBulkAll];omega)
  ·exact TY (bulk_each r _ n (fun x hx=>ht x (List.mem_cons_of_mem _ hx)) h) (by simp only[Rows.uptoBulkAll];omega)
end
def upB:Nat:=137437904896
theorem Io {H:Type}: ∀(ds:List (DataW H)) (i:Nat) (d:DataW H),ds[i]? =some d→Rows.uptoBulk d≤Rows.uptoBulkAll ds
 | [],i,d,h=>by simp at h
 | x:: r,0,d,h=>by
  simp only[List.getElem?_cons_zero,Option.some.injEq]at h;subst h;simp only[Rows.uptoBulkAll];omega
 | x:: r,i+1,d,h=>by
  have:=Io r i d (by simpa using h);simp only[Rows.uptoBulkAll];omega
theorem Pa {H:Type} {ds:List (DataW H)} (h:Rows.uptoSmall H ds=true) {i:Nat} {d:DataW H} (hd:ds[i]? =some d) {t:TypeId} (ht:t∈V7): ∀n∈d.weights Tryz.prog t,n≤upB:=fun n hn=>by
 have h1:=Ip d t n ht hn;have h2:=Io ds i d hd;have h3:Rows.uptoBulkAll ds≤1048576:=by simpa[Rows.uptoSmall]using h
 exact TY h1 (Nat.le_trans h2 h3)
end Go.Proofs.YtpdmcibimbjknaaGreatDoor
