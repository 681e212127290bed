/- What the rows of this seat say of variables and arguments. -/
import Derived.Test.YtohebioanhliiaaGreatDoorJZ1
import Derived.Test.YtohebioanhliiaaGreatDoorJA5
import Derived.Test.YtohebioanhliiaaGreatDoorRows
import Derived.Lib.LaidU8
import Derived.Lay
import Derived.MakeChecks
import Derived.WalkKit
set_option maxRecDepth 100000
set_option linter.unusedVariables false
set_option linter.unusedSimpArgs false
namespace Go.Proofs.YtohebioanhliiaaGreatDoor.ZF
variable {H:Type}
theorem pos:∀d:DataW H,1<=Rows.uptoBulk d:=by
 intro d;cases d with
 |lit l=>cases l<;>simp[Rows.uptoBulk]
 |_=>simp[Rows.uptoBulk]
theorem U8:∀l:List (DataW H),l.length<=Rows.uptoBulkAll l:=by
 intro l;induction l with
 |nil=>simp[Rows.uptoBulkAll]
 |cons d l ih=>have:=pos d;simp only[Rows.uptoBulkAll,List.length_cons];omega
theorem J3:∀ {l:List (DataW H)} {d:DataW H},d∈l->Rows.uptoBulk d<=Rows.uptoBulkAll l:=by
 intro l;induction l with
 |nil=>intro d h;simp at h
 | cons x l ih=>
   intro d h;simp only[Rows.uptoBulkAll];rcases List.mem_cons.1 h with rfl|h;omega;have:=ih h;omega
theorem slice(es sp:List (DataW H)):es.length<=Rows.uptoBulk (.slice es sp):=by
 have:=U8 es;simp only[Rows.uptoBulk];omega
theorem agg(d:DataW H)(parts:List (DataW H))(h:d∈parts):Rows.uptoBulk d<=Rows.uptoBulk (.agg parts):=by
 have:=J3 h;simp only[Rows.uptoBulk];omega
theorem small{ds:List (DataW H)}{d:DataW H}(h:Rows.uptoSmall H ds=true)(hd:d∈ds):Rows.uptoBulk d<=1048576:=by
 have:=J3 hd;simp only[Rows.uptoSmall,decide_eq_true_eq]at h;omega
end Go.Proofs.YtohebioanhliiaaGreatDoor.ZF
namespace Go.Proofs.YtohebioanhliiaaGreatDoor.aF
open Go.Sx Go Go.RowKit Go.ChangeShapes Go.WideShapes Go.Lib
abbrev Bo:List (String×DataW Unit):=Rows.wholeCulledRow.laid
theorem XM(w:World):laidMetH Tryz.prog Bo w=laidMet Tryz.prog Bo w:=MakeChecks.laidMetH_plain _ _ _ (by kernel_rfl)
theorem Dl{w:World}{name:String}{g:Nat}{zs:List Int}(hg:Tryz.prog.globalNamed name=some g)(hty:(Tryz.prog.globals[g]?).map (·.type)=some 146)(h:VarReads Tryz.prog w name (tabData .i64 zs)) :
   ∃T z,w.heap[g]?=some (.cells (zs.map fun n=>Value.int .i64 n).toArray T z):=by
 obtain⟨g',t,cs,fuel,p,h1,h2,h3,h4⟩:=h;obtain rfl:=Option.some.inj (hg.symm.trans h1);obtain rfl:=Option.some.inj (hty.symm.trans h2);have jn:=cells_of_tab (n:=2) (e:=3) (by kernel_rfl) (by kernel_rfl) (by kernel_rfl) (by kernel_rfl) h4;unfold World.var? at h3;rw[hg]at h3;have h3:(match w.heap[g]? with|some (.cells cs _ _)=>some cs|_=>none)=some cs:=h3;split at h3;rename_i pO T z hh;simp only[ah]at h3;subst h3;exact⟨T,z,by rw[hh,<- jn]⟩;cases h3
theorem I0{w:World}(h:laidMetH Tryz.prog Bo w):Wd w:=by
 rw[XM]at h;intro p hp;have hp:p∈[(1,[0,255]),(2,[0,1])]:=hp;simp only[bD,List.mem_nil_iff,or_false]at hp;rcases hp with rfl|rfl;exact Dl (zs:=[0,255]) (by kernel_rfl) (by kernel_rfl) (laidMet.reads h (n:= "rastrum/code.byteful") (.tail _ (.tail _ (.tail _ (.tail _ (.head _))))));exact Dl (zs:=[0,1]) (by kernel_rfl) (by kernel_rfl) (laidMet.reads h (n:= "rastrum/code.on") (.tail _ (.tail _ (.tail _ (.head _)))))
theorem XO{n:Int}(h:mu i6 n): -9223372036854775808<=n/\n<=9223372036854775807:=h
theorem Wa{d:DV}(h:Up (.n 85 nkR) d):∃l,d = .l l/\Kj [.l l]:=by
 cases d with
 |i _=>exact h.elim
 |b _=>exact h.elim
 | l l=>
   refine⟨l,rfl,l,rfl,h.1,fun r hr=>?_⟩;obtain⟨ds,rfl,rF⟩:=h.2 r hr
   match ds,rF with
   | [d0,d1],rF=>
     obtain⟨⟨h0,_⟩,h1,_⟩:=id rF;have e0:=Az rF (j:=0) rfl;have e1:=CR rF (j:=1) rfl;unfold rQ b8;rw[e0,e1];refine⟨XO h0,fun c hc=>?_⟩;obtain⟨x,hx,rfl⟩:=jb.1 hc;exact XO (h1.2.2 x hx)
theorem own:ownKnob Tryz.prog.godebug=none:=by kernel_rfl
theorem GN:laidOutB Tryz.prog=true:=by kernel_rfl
theorem ane{k:Nat}{s:bR}{e:iG}{pre:List DV->Prop}(hT:TT Tryz.prog k=some e)(hs:kI k=some s)(hc:s.cons=0)(hr:s.res=[.one (.c .b)])(h:mb (TT Tryz.prog) XF k pre (fun _ rs=>rs=[.b true])) :
   fj Tryz.prog Wd e.f ⟨s,pre,fun _ rs=>rs=[.b true],fun ds _=>⟨_,by rw[hr];rfl,rfl⟩⟩:=
 wh (ct:=⟨s,pre,fun _ rs=>rs=[.b true],fun ds _=>⟨_,by rw[hr];rfl,rfl⟩⟩) (adA J1) hT hs hc fun ds _ hp=>h ds hp
end Go.Proofs.YtohebioanhliiaaGreatDoor.aF
