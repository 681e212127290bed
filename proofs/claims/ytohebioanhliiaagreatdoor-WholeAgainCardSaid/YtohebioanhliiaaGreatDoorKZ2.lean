/- What the rows of this seat say of variables and arguments. -/
import Derived.Test.YtohebioanhliiaaGreatDoorKZ1
import Derived.Test.YtohebioanhliiaaGreatDoorKA5
import Derived.Test.YtohebioanhliiaaGreatDoorRows
import Derived.Lib.LaidU8
import Derived.Lay
import Derived.MakeChecks
import Derived.WalkKit
set_option maxRecDepth 100000
set_option linter.unusedVariables false
set_option linter.unusedSimpArgs false
namespace Go.Proofs.YtohebioanhliiaaGreatDoor.V7
variable {H:Type}
theorem pos:∀d:DataW H,1<=Rows.uptoBulk d:=by
 intro d;cases d with
 |lit l=>cases l<;>simp[Rows.uptoBulk]
 |_=>simp[Rows.uptoBulk]
theorem RV:∀l:List (DataW H),l.length<=Rows.uptoBulkAll l:=by
 intro l;induction l with
 |nil=>simp[Rows.uptoBulkAll]
 |cons d l ih=>have:=pos d;simp only[Rows.uptoBulkAll,List.length_cons];omega
theorem Hw:∀ {l:List (DataW H)} {d:DataW H},d∈l->Rows.uptoBulk d<=Rows.uptoBulkAll l:=by
 intro l;induction l with
 |nil=>intro d h;simp at h
 | cons x l ih=>
   intro d h;simp only[Rows.uptoBulkAll];rcases List.mem_cons.1 h with rfl|h
   . omega
   . have:=ih h;omega
theorem slice(es sp:List (DataW H)):es.length<=Rows.uptoBulk (.slice es sp):=by
 have:=RV es;simp only[Rows.uptoBulk];omega
theorem agg(d:DataW H)(parts:List (DataW H))(h:d∈parts):Rows.uptoBulk d<=Rows.uptoBulk (.agg parts):=by
 have:=Hw h;simp only[Rows.uptoBulk];omega
theorem small{ds:List (DataW H)}{d:DataW H}(h:Rows.uptoSmall H ds=true)(hd:d∈ds):Rows.uptoBulk d<=1048576:=by
 have:=Hw hd;simp only[Rows.uptoSmall,decide_eq_true_eq]at h;omega
end Go.Proofs.YtohebioanhliiaaGreatDoor.V7
namespace Go.Proofs.YtohebioanhliiaaGreatDoor.aD
open Go.Sx Go Go.RowKit Go.ChangeShapes Go.WideShapes Go.Lib
abbrev zb:List (String×DataW Unit):=Rows.wholeCulledRow.laid
theorem Uj(w:World):laidMetH Tryz.prog zb w=laidMet Tryz.prog zb w:=MakeChecks.laidMetH_plain _ _ _ (by kernel_rfl)
theorem Bh{w:World}{name:String}{g:Nat}{zs:List Int}(hg:Tryz.prog.globalNamed name=some g)(hty:(Tryz.prog.globals[g]?).map (·.type)=some 146)(h:VarReads Tryz.prog w name (tabData .i64 zs)) :
   ∃T z,w.heap[g]?=some (.cells (zs.map fun n=>Value.int .i64 n).toArray T z):=by
 obtain⟨g',t,cs,fuel,p,h1,h2,h3,h4⟩:=h;obtain rfl:=Option.some.inj (hg.symm.trans h1);obtain rfl:=Option.some.inj (hty.symm.trans h2);have iu:=cells_of_tab (n:=2) (e:=3) (by kernel_rfl) (by kernel_rfl) (by kernel_rfl) (by kernel_rfl) h4
 unfold World.var? at h3;rw[hg]at h3;have h3:(match w.heap[g]? with|some (.cells cs _ _)=>some cs|_=>none)=some cs:=h3
 split at h3
 . rename_i nW T z hh;simp only[af]at h3;subst h3;exact⟨T,z,by rw[hh,<- iu]⟩
 . cases h3
theorem Gu{w:World}(h:laidMetH Tryz.prog zb w):Wd w:=by
 rw[Uj]at h;intro p hp;have hp:p∈[(1,[0,255]),(2,[0,1])]:=hp;simp only[bq,List.mem_nil_iff,or_false]at hp;rcases hp with rfl|rfl
 . exact Bh (zs:=[0,255]) (by kernel_rfl) (by kernel_rfl) (laidMet.reads h (n:= "rastrum/code.byteful") (.tail _ (.tail _ (.tail _ (.tail _ (.head _))))))
 . exact Bh (zs:=[0,1]) (by kernel_rfl) (by kernel_rfl) (laidMet.reads h (n:= "rastrum/code.on") (.tail _ (.tail _ (.tail _ (.head _)))))
theorem Uk{n:Int}(h:kR i6 n): -9223372036854775808<=n/\n<=9223372036854775807:=h
theorem S8{d:DV}(h:Vj (.n 85 nkR) d):∃l,d = .l l/\Bc [.l l]:=by
 cases d with
 |i _=>exact h.elim
 |b _=>exact h.elim
 | l l=>
   refine⟨l,rfl,l,rfl,h.1,fun r hr=>?_⟩
   obtain⟨ds,rfl,pF⟩:=h.2 r hr
   match ds,pF with
   | [d0,d1],pF=>
     obtain⟨⟨h0,_⟩,h1,_⟩:=id pF;have e0:=x9 pF (j:=0) rfl;have e1:=AO pF (j:=1) rfl;unfold pN bU;rw[e0,e1];refine⟨Uk h0,fun c hc=>?_⟩
     obtain⟨x,hx,rfl⟩:=List.mem_map.1 hc;exact Uk (h1.2.2 x hx)
theorem NZ{DQ:List DV}(h:DP [.n 85 nkR] DQ):Bc DQ:=by
 match DQ,h with
 | [d],h=>obtain⟨l,rfl,hl⟩:=S8 h.1;exact hl
theorem own:ownKnob Tryz.prog.godebug=none:=by kernel_rfl
theorem Ep:laidOutB Tryz.prog=true:=by kernel_rfl
theorem aku{k:Nat}{s:bN}{e:gR}{pre:List DV->Prop}(hT:TT Tryz.prog k=some e)(hs:iD k=some s)(hc:s.cons=0)(hr:s.res=[.one (.c .b)])(h:lH (TT Tryz.prog) XF k pre (fun _ rs=>rs=[.b true])) :
   eN Tryz.prog Wd e.f ⟨s,pre,fun _ rs=>rs=[.b true],fun ds _=>⟨_,by rw[hr];rfl,rfl⟩⟩:=
 ua (ct:=⟨s,pre,fun _ rs=>rs=[.b true],fun ds _=>⟨_,by rw[hr];rfl,rfl⟩⟩) (abp Hu) hT hs hc fun ds _ hp=>h ds hp
end Go.Proofs.YtohebioanhliiaaGreatDoor.aD
