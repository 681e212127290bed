/- What the rows of this seat say of variables and arguments. -/
import Derived.Test.YtohebioanhliiaaGreatDoorFZ1
import Derived.Test.YtohebioanhliiaaGreatDoorFA5
import Derived.Test.YtohebioanhliiaaGreatDoorRows
import Derived.Lib.LaidU8
import Derived.Lay
import Derived.MakeChecks
set_option maxRecDepth 100000
set_option linter.unusedVariables false
set_option linter.unusedSimpArgs false
namespace Go.Proofs.YtohebioanhliiaaGreatDoor.Z'
variable {H:Type}
theorem pos:∀d:DataW H,1<=Rows.uptoBulk d:=by
 intro d;cases d with
 |lit l=>cases l<;>simp[Rows.uptoBulk]
 |_=>simp[Rows.uptoBulk]
theorem VO:∀l:List (DataW H),l.length<=Rows.uptoBulkAll l:=by
 intro l;induction l with
 |nil=>simp[Rows.uptoBulkAll]
 |cons d l ih=>have:=pos d;simp only[Rows.uptoBulkAll,List.length_cons];omega
theorem VP:∀ {l:List (DataW H)} {d:DataW H},d∈l->Rows.uptoBulk d<=Rows.uptoBulkAll l:=by
 intro l;induction l with
 |nil=>intro d h;simp at h
 | cons x l ih=>
   intro d h;simp only[Rows.uptoBulkAll];rcases List.mem_cons.1 h with rfl|h;omega;have:=ih h;omega
theorem slice(es sp:List (DataW H)):es.length<=Rows.uptoBulk (.slice es sp):=by
 have:=VO es;simp only[Rows.uptoBulk];omega
theorem agg(d:DataW H)(parts:List (DataW H))(h:d∈parts):Rows.uptoBulk d<=Rows.uptoBulk (.agg parts):=by
 have:=VP h;simp only[Rows.uptoBulk];omega
end Go.Proofs.YtohebioanhliiaaGreatDoor.Z'
namespace Go.Proofs.YtohebioanhliiaaGreatDoor.aN
open Go.Sx Go Go.RowKit Go.ChangeShapes Go.WideShapes Go.Lib
abbrev B6:List (String×DataW Unit):=Rows.wholeCulledRow.laid
theorem YL(w:World):laidMetH PP B6 w=laidMet PP B6 w:=MakeChecks.laidMetH_plain _ _ _ (by kernel_rfl)
theorem D3{w:World}{name:String}{g:Nat}{zs:List Int}(hg:PP.globalNamed name=some g)(hty:(PP.globals[g]?).map (·.type)=some 146)(h:VarReads PP w name (tabData .i64 zs)) :
   ∃T z,w.heap[g]?=some (.cells (zs.map fun n=>Value.int .i64 n).toArray T z):=by
 obtain⟨g',t,cs,fuel,p,h1,h2,h3,h4⟩:=h;obtain rfl:=Option.some.inj (hg.symm.trans h1);obtain rfl:=Option.some.inj (hty.symm.trans h2);have jc:=cells_of_tab (n:=2) (e:=3) (by kernel_rfl) (by kernel_rfl) (by kernel_rfl) (by kernel_rfl) h4;unfold World.var? at h3;rw[hg]at h3;have h3:(match w.heap[g]? with|some (.cells cs _ _)=>some cs|_=>none)=some cs:=h3;split at h3;rename_i qG T z hh;simp only[ah]at h3;subst h3;exact⟨T,z,by rw[hh,<- jc]⟩;cases h3
theorem JQ{w:World}(h:laidMetH PP B6 w):Wd w:=by
 rw[YL]at h;intro p hp;have hp:p∈[(1,[0,255]),(2,[0,1])]:=hp;simp only[bC,List.mem_nil_iff,or_false]at hp;rcases hp with rfl|rfl;exact D3 (zs:=[0,255]) (by kernel_rfl) (by kernel_rfl) (laidMet.reads h (n:= "rastrum/code.byteful") (.tail _ (.tail _ (.tail _ (.tail _ (.head _))))));exact D3 (zs:=[0,1]) (by kernel_rfl) (by kernel_rfl) (laidMet.reads h (n:= "rastrum/code.on") (.tail _ (.tail _ (.tail _ (.head _)))))
theorem YM{n:Int}(h:nd i6 n): -9223372036854775808<=n/\n<=9223372036854775807:=h
theorem Xm{d:DV}(h:ZJ (.n 85 nkR) d):∃l,d = .l l/\HN [.l l]:=by
 cases d with
 |i _=>exact h.elim
 |b _=>exact h.elim
 | l l=>
   refine⟨l,rfl,l,rfl,h.1,fun r hr=>?_⟩;obtain⟨ds,rfl,sq⟩:=h.2 r hr
   match ds,sq with
   | [d0,d1],sq=>
     obtain⟨⟨h0,_⟩,h1,_⟩:=id sq;have e0:=Bb sq (j:=0) rfl;have e1:=Du sq (j:=1) rfl;unfold sK cn;rw[e0,e1];refine⟨YM h0,fun c hc=>?_⟩;obtain⟨x,hx,rfl⟩:=jz.1 hc;exact YM (h1.2.2 x hx)
theorem RT{F7:List DV}(h:G6 [.n 85 nkR] F7):HN F7:=by
 match F7,h with
 | [d],h=>obtain⟨l,rfl,hl⟩:=Xm h.1;exact hl
theorem own:ownKnob PP.godebug=none:=by kernel_rfl
theorem HB:laidOutB PP=true:=by kernel_rfl
theorem anj{k:Nat}{s:bX}{e:iU}{pre:List DV->Prop}(hT:TT PP k=some e)(hs:lD k=some s)(hc:s.cons=0)(hr:s.res=[.one (.c .b)])(h:ng (TT PP) XF k pre (fun _ rs=>rs=[.b true])) :
   fK PP Wd e.f ⟨s,pre,fun _ rs=>rs=[.b true],fun ds _=>⟨_,by rw[hr];rfl,rfl⟩⟩:=
 xn (ct:=⟨s,pre,fun _ rs=>rs=[.b true],fun ds _=>⟨_,by rw[hr];rfl,rfl⟩⟩) (adL KM) hT hs hc fun ds _ hp=>h ds hp
end Go.Proofs.YtohebioanhliiaaGreatDoor.aN
