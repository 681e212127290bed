/- What the rows of this seat say of variables and arguments. -/
import Derived.Test.YtohebioanhliiaaGreatDoorGZ1
import Derived.Test.YtohebioanhliiaaGreatDoorGA5
import Derived.Test.YtohebioanhliiaaGreatDoorRows
import Derived.Lib.LaidU8
import Derived.Lay
import Derived.MakeChecks
set_option maxRecDepth 100000
set_option linter.unusedVariables false
set_option linter.unusedSimpArgs false
namespace Go.Proofs.YtohebioanhliiaaGreatDoor.aaR
variable {H:Type}
theorem pos:∀d:DataW H,1<=Rows.uptoBulk d:=by
 intro d;cases d with
 |lit l=>cases l<;>simp[Rows.uptoBulk]
 |_=>simp[Rows.uptoBulk]
theorem W0:∀l:List (DataW H),l.length<=Rows.uptoBulkAll l:=by
 intro l;induction l with
 |nil=>simp[Rows.uptoBulkAll]
 |cons d l ih=>have:=pos d;simp only[Rows.uptoBulkAll,List.length_cons];omega
theorem W4:∀ {l:List (DataW H)} {d:DataW H},d∈l->Rows.uptoBulk d<=Rows.uptoBulkAll l:=by
 intro l;induction l with
 |nil=>intro d h;simp at h
 | cons x l ih=>
   intro d h;simp only[Rows.uptoBulkAll];rcases List.mem_cons.1 h with rfl|h;omega;have:=ih h;omega
theorem slice(es sp:List (DataW H)):es.length<=Rows.uptoBulk (.slice es sp):=by
 have:=W0 es;simp only[Rows.uptoBulk];omega
theorem agg(d:DataW H)(parts:List (DataW H))(h:d∈parts):Rows.uptoBulk d<=Rows.uptoBulk (.agg parts):=by
 have:=W4 h;simp only[Rows.uptoBulk];omega
end Go.Proofs.YtohebioanhliiaaGreatDoor.aaR
namespace Go.Proofs.YtohebioanhliiaaGreatDoor.av
open Go.Sx Go Go.RowKit Go.ChangeShapes Go.WideShapes Go.Lib
abbrev CP:List (String×DataW Unit):=Rows.wholeCulledRow.laid
theorem ZD(w:World):laidMetH PP CP w=laidMet PP CP w:=MakeChecks.laidMetH_plain _ _ _ (by kernel_rfl)
theorem ES{w:World}{name:String}{g:Nat}{zs:List Int}(hg:PP.globalNamed name=some g)(hty:(PP.globals[g]?).map (·.type)=some 146)(h:VarReads PP w name (tabData .i64 zs)) :
   ∃T z,w.heap[g]?=some (.cells (zs.map fun n=>Value.int .i64 n).toArray T z):=by
 obtain⟨g',t,cs,fuel,p,h1,h2,h3,h4⟩:=h;obtain rfl:=Option.some.inj (hg.symm.trans h1);obtain rfl:=Option.some.inj (hty.symm.trans h2);have iW:=cells_of_tab (n:=2) (e:=3) (by kernel_rfl) (by kernel_rfl) (by kernel_rfl) (by kernel_rfl) h4;unfold World.var? at h3;rw[hg]at h3;have h3:(match w.heap[g]? with|some (.cells cs _ _)=>some cs|_=>none)=some cs:=h3;split at h3;rename_i qL T z hh;simp only[ah]at h3;subst h3;exact⟨T,z,by rw[hh,<- iW]⟩;cases h3
theorem KU{w:World}(h:laidMetH PP CP w):Wd w:=by
 rw[ZD]at h;intro p hp;have hp:p∈[(1,[0,255]),(2,[0,1])]:=hp;simp only[bF,List.mem_nil_iff,or_false]at hp;rcases hp with rfl|rfl;exact ES (zs:=[0,255]) (by kernel_rfl) (by kernel_rfl) (laidMet.reads h (n:= "rastrum/code.byteful") (.tail _ (.tail _ (.tail _ (.tail _ (.head _))))));exact ES (zs:=[0,1]) (by kernel_rfl) (by kernel_rfl) (laidMet.reads h (n:= "rastrum/code.on") (.tail _ (.tail _ (.tail _ (.head _)))))
theorem own:ownKnob PP.godebug=none:=by kernel_rfl
theorem Im:laidOutB PP=true:=by kernel_rfl
theorem amK{k:Nat}{s:bW}{e:ir}{pre:List DV->Prop}(hT:TT PP k=some e)(hs:qX k=some s)(hc:s.cons=0)(hr:s.res=[.one (.c .b)])(h:vy (TT PP) XF k pre (fun _ rs=>rs=[.b true])) :
   fw PP Wd e.f ⟨s,pre,fun _ rs=>rs=[.b true],fun ds _=>⟨_,by rw[hr];rfl,rfl⟩⟩:=
 xO (ct:=⟨s,pre,fun _ rs=>rs=[.b true],fun ds _=>⟨_,by rw[hr];rfl,rfl⟩⟩) (ae6 L4) hT hs hc fun ds _ hp=>h ds hp
end Go.Proofs.YtohebioanhliiaaGreatDoor.av
