/- The hints by which the functions were printed: orders of regions, joins, loops. -/
import Derived.Test.YtcpknphdancjjaaGreatDoorEvG
namespace GoEv
/-- semtype/semtypelaw27.SyntaxLimits -/
def hn3 : Hn := (.sq .lf (.sq .lf (.sq .lf (.sq (.sq .lf (.jb [5, 7] (.sq .lf (.cn (.sq .lf .lf) (.sq .lf (.cn (.sq .lf .lf) (.sq .lf (.cn (.sq .lf .lf) (.sq .lf (.cn (.sq .lf (.sq .lf (.sq (.sq .lf (.jb [5, 7] (.lo [5, 6, 7, 8] (.sq (.sq .lf (.cn .lf .lf)) (.sq (.bl (.js [5, 6, 7, 8] (.sq .lf (.cn .lf .lf)) .lf)) .lf))))) .lf))) (.sq .lf (.cn (.sq .lf .lf) (.sq .lf .lf))))))))))))) (.sq .lf (.sq .lf (.js [7, 11, 12] (.sq .lf (.cn .lf .lf)) (.sq .lf .lf))))))))
def na3 : Nat := 2
/-- semtype/semtypelaw27.times -/
def hn4 : Hn := (.sq .lf (.sq .lf (.sq (.jb [5] (.lo [0, 1, 5] (.sq (.sq .lf (.cn .lf .lf)) (.sq (.bl .lf) .lf)))) (.sq .lf .lf))))
def na4 : Nat := 2
/-- semtype/semtyperef26.Decimal -/
def hn5 : Hn := (.sq .lf (.sq (.sq .lf (.cn (.sq .lf (.sq .lf (.sq (.sq .lf (.cn (.sq .lf .lf) .lf)) (.sq .lf .lf)))) .lf)) (.sq .lf (.sq (.sq .lf (.cn (.sq .lf .lf) .lf)) (.sq .lf .lf)))))
def na5 : Nat := 1
/-- semtype/syntax.Parse -/
def hn6 : Hn := (.sq .lf (.sq (.sq .lf (.cn (.sq .lf .lf) .lf)) (.sq .lf .lf)))
def na6 : Nat := 1
/-- semtype/semtypelaw27.parses -/
def hn7 : Hn := (.sq .lf (.sq .lf (.sq .lf (.sq .lf .lf))))
def na7 : Nat := 1
/-- semtype/semtypelaw27.awake -/
def hn8 : Hn := (.sq .lf (.sq .lf (.sq .lf (.sq .lf .lf))))
def na8 : Nat := 0
/-- semtype/syntax.parse -/
def hn9 : Hn := (.sq .lf (.sq .lf (.sq .lf (.sq (.sq .lf (.cn (.sq (.dr [0, 1, 2, 3, 4, 5, 6, 7, 8, 9, 10, 11]) .lf) .lf)) (.sq .lf .lf)))))
def na9 : Nat := 1
/-- semtype/semtyperef26.Parse -/
def hn10 : Hn := (.sq .lf (.sq .lf (.sq (.sq .lf (.cn (.sq .lf .lf) .lf)) (.sq .lf (.sq .lf (.sq (.jb [2, 8, 9] (.lo [2, 8, 9] (.sq (.sq (.dr [0, 1, 2, 3, 4, 5, 6, 7, 8, 9, 10, 11, 12, 13]) (.cn .lf .lf)) (.bl (.js [2, 8, 9] (.sq .lf (.cn .lf .lf)) (.sq .lf (.dr [0, 1, 2, 3, 4, 5, 6, 7]))))))) (.sq (.sq .lf (.cn (.sq (.dr [0, 1, 2, 3, 4, 5, 6, 7, 8, 9, 10, 11]) .lf) .lf)) (.sq .lf .lf))))))))
def na10 : Nat := 1
/-- semtype/semtyperef26.SameModule -/
def hn11 : Hn := (.sq .lf (.sq (.sq .lf (.cn (.sq .lf .lf) .lf)) (.sq (.sq .lf (.jb [2, 3, 4] (.lo [2, 3, 4, 56, 57] (.sq .lf (.sq (.cn .lf .lf) (.sq (.bl (.sq .lf (.sq (.dr [0, 1, 2, 3, 4, 5, 6, 7, 8, 9, 10]) (.cn (.sq .lf .lf) .lf)))) .lf)))))) (.sq (.sq .lf (.jb [2, 3, 4] (.lo [2, 3, 4, 74, 75] (.sq .lf (.sq (.cn .lf .lf) (.sq (.bl (.sq .lf (.sq (.dr [0, 1, 2, 3, 4, 5, 6, 7, 8, 9, 10]) (.cn (.sq .lf .lf) .lf)))) .lf)))))) (.sq (.sq .lf (.jb [2, 3, 4] (.lo [2, 3, 4, 92, 93] (.sq .lf (.sq (.cn .lf .lf) (.sq (.bl (.sq .lf (.sq (.dr [0, 1, 2, 3, 4, 5, 6, 7, 8, 9, 10, 11, 12, 13, 14, 15, 16, 17, 18, 19, 20, 21, 22, 23, 24, 25, 26, 27, 28]) (.cn (.sq .lf .lf) .lf)))) .lf)))))) (.sq (.sq .lf (.jb [] (.lo [2, 3, 4, 128, 129] (.sq .lf (.sq (.cn .lf .lf) (.sq (.bl (.sq .lf (.sq (.dr [0, 1, 2, 3, 4, 5, 6, 7, 8, 9, 10, 11, 12, 13]) (.sq .lf (.cn (.sq .lf .lf) .lf))))) .lf)))))) (.sq .lf .lf)))))))
def na11 : Nat := 3
/-- semtype/syntax.ParseExpr -/
def hn12 : Hn := (.sq .lf (.sq (.sq .lf (.cn (.sq .lf .lf) .lf)) (.sq .lf .lf)))
def na12 : Nat := 1
/-- semtype/syntax.FormatExpr -/
def hn13 : Hn := (.sq .lf (.sq .lf (.sq .lf (.sq .lf (.sq .lf (.sq (.sq .lf (.cn (.sq .lf .lf) .lf)) (.sq .lf .lf)))))))
def na13 : Nat := 1
/-- semtype/syntax.Format -/
def hn14 : Hn := (.sq .lf (.sq .lf (.sq .lf (.sq .lf (.sq .lf (.js [1, 3, 4] (.sq .lf (.cn (.sq .lf (.sq .lf (.sq .lf .lf))) .lf)) (.js [1, 3, 4] (.sq .lf (.cn (.sq .lf (.sq .lf (.sq .lf .lf))) .lf)) (.sq (.sq .lf (.jb [1, 3, 4] (.lo [1, 3, 4, 58, 59, 60] (.sq .lf (.sq (.cn .lf .lf) (.sq (.bl (.sq .lf (.sq .lf (.sq .lf (.sq .lf (.sq .lf (.sq .lf .lf))))))) .lf)))))) (.sq (.sq .lf (.jb [1, 3] (.lo [1, 3, 4, 89, 90, 91] (.sq .lf (.sq (.cn .lf .lf) (.sq (.bl (.sq .lf (.sq .lf .lf))) .lf)))))) (.sq .lf (.sq (.sq .lf (.cn (.sq .lf .lf) .lf)) (.sq .lf .lf))))))))))))
def na14 : Nat := 1
/-- semtype/syntax.newParser -/
def hn15 : Hn := (.sq .lf (.sq .lf (.sq .lf (.sq .lf .lf))))
def na15 : Nat := 1
/-- (*semtype/syntax.parser).module -/
def hn16 : Hn := (.sq .lf (.sq .lf (.sq .lf (.sq .lf (.sq .lf (.js [0, 2, 3] (.sq .lf (.cn (.sq (.sq (.dr [0, 1, 2, 3, 4, 5, 6, 7]) (.jb [0, 2, 3] (.lo [0, 2, 3] (.sq (.sq .lf (.cn .lf .lf)) (.sq (.bl .lf) (.dr [0, 1, 2, 3, 4, 5, 6, 7])))))) .lf) .lf)) (.js [0, 2, 3] (.sq .lf (.cn (.sq (.sq (.dr [0, 1, 2, 3, 4, 5, 6, 7]) (.jb [0, 2, 3] (.lo [0, 2, 3] (.sq (.sq .lf (.cn .lf .lf)) (.sq (.bl .lf) (.dr [0, 1, 2, 3, 4, 5, 6, 7])))))) .lf) .lf)) (.sq (.jb [0, 2, 3] (.lo [0, 2, 3] (.sq (.sq .lf (.cn .lf .lf)) (.bl (.sq .lf (.sq .lf (.sq .lf (.sq .lf .lf)))))))) (.sq (.jb [2, 3] (.lo [0, 2, 3] (.sq (.sq (.dr [0, 1, 2, 3, 4, 5, 6, 7, 8, 9, 10, 11, 12, 13, 14, 15, 16]) (.cn .lf .lf)) (.bl (.dr [0, 1, 2, 3, 4, 5, 6, 7, 8, 9, 10, 11]))))) (.sq .lf .lf))))))))))
def na16 : Nat := 1
/-- semtype/semtyperef26.Scan -/
def hn17 : Hn := (.sq .lf (.sq (.sq .lf (.cn (.sq .lf .lf) .lf)) (.sq .lf (.sq (.sq .lf (.jb [5] (.lo [0, 5, 6] (.sq (.sq .lf (.cn .lf .lf)) (.sq (.bl (.sq .lf (.sq (.sq .lf (.cn (.sq .lf .lf) .lf)) (.sq .lf .lf)))) .lf))))) (.sq .lf .lf)))))
def na17 : Nat := 1
/-- (*semtype/semtyperef26.reader).head -/
def hn18 : Hn := (.sq .lf (.sq .lf (.sq .lf (.sq .lf (.js [0, 2, 3] (.sq .lf (.cn (.sq .lf (.sq (.sq .lf (.jb [0, 2, 3] (.lo [0, 2, 3, 4] (.sq (.sq .lf (.cn .lf .lf)) (.sq (.bl (.dr [0, 1, 2, 3, 4, 5, 6, 7])) .lf))))) .lf)) .lf)) (.js [0, 2, 3] (.sq .lf (.cn (.sq .lf (.sq (.sq .lf (.jb [0, 2, 3] (.lo [0, 2, 3, 5] (.sq (.sq .lf (.cn .lf .lf)) (.sq (.bl (.dr [0, 1, 2, 3, 4, 5, 6, 7])) .lf))))) .lf)) .lf)) (.sq (.jb [2, 3] (.lo [0, 2, 3] (.sq (.sq .lf (.cn .lf .lf)) (.bl (.sq .lf (.sq .lf (.sq .lf (.sq (.dr [0, 1, 2, 3, 4, 5, 6, 7, 8, 9]) .lf)))))))) (.sq .lf .lf))))))))
def na18 : Nat := 1
/-- (*semtype/semtyperef26.reader).ok -/
def hn19 : Hn := (.sq .lf (.sq .lf .lf))
def na19 : Nat := 1
/-- (*semtype/semtyperef26.reader).isName -/
def hn20 : Hn := (.sq .lf (.sq .lf .lf))
def na20 : Nat := 1
/-- (*semtype/semtyperef26.reader).syntax -/
def hn21 : Hn := .lf
def na21 : Nat := 1
/-- (*semtype/semtyperef26.reader).limit -/
def hn22 : Hn := (.sq .lf (.cn .lf .lf))
def na22 : Nat := 3
/-- (*semtype/semtyperef26.reader).function -/
def hn23 : Hn := (.sq .lf (.sq .lf (.sq (.sq .lf (.jb [0, 2, 3] (.lo [0, 2, 3, 4] (.sq (.sq .lf (.cn .lf .lf)) (.sq (.bl (.js [0, 2, 3, 4] (.sq .lf (.cn .lf .lf)) (.sq .lf (.js [0, 2, 3, 4, 5] (.sq .lf (.cn .lf .lf)) (.js [0, 2, 3, 4, 5] (.sq (.dr [0, 1, 2, 3, 4, 5, 6, 7, 10, 11, 8, 9, 12, 13]) (.cn .lf .lf)) (.sq .lf (.sq .lf (.sq .lf (.sq .lf (.js [0, 2, 3, 5] (.sq .lf (.cn (.dr [0, 1, 2, 3, 4, 5, 6, 7]) (.sq .lf (.cn .lf .lf)))) (.dr [0, 1, 2, 3, 4, 5, 6, 7, 8]))))))))))) .lf))))) (.sq .lf (.sq .lf .lf)))))
def na23 : Nat := 1
/-- semtype/semtyperef26.SameClauses -/
def hn25 : Hn := (.sq .lf (.sq (.sq .lf (.cn (.sq .lf .lf) .lf)) (.sq (.sq .lf (.jb [] (.lo [0, 1, 2, 17, 18] (.sq .lf (.sq (.cn .lf .lf) (.sq (.bl (.sq .lf (.sq (.dr [0, 1, 2, 3, 4, 5, 6, 7, 8, 9, 10, 11]) (.sq (.sq .lf (.cn (.sq .lf .lf) .lf)) (.sq .lf (.jb [0, 1, 2, 17, 18] (.lo [0, 1, 2, 8, 9, 17, 18, 66, 67] (.sq .lf (.sq (.cn .lf .lf) (.sq (.bl (.sq .lf (.sq (.dr [0, 1, 2, 3, 4, 5, 6, 7, 8, 9, 10, 11]) (.cn (.sq .lf .lf) .lf)))) .lf)))))))))) .lf)))))) (.sq .lf .lf))))
def na25 : Nat := 3
/-- semtype/syntax.parseExpr -/
def hn26 : Hn := (.sq .lf (.sq .lf (.sq .lf (.js [2, 5, 6] (.sq (.dr [0, 1, 2, 3, 4, 5, 6, 7, 8, 9]) (.cn .lf .lf)) (.sq (.sq .lf (.cn (.sq (.dr [0, 1, 2, 3, 4, 5, 6, 7, 8, 9, 10, 11]) .lf) .lf)) (.sq .lf .lf))))))
def na26 : Nat := 1
/-- (*semtype/syntax.printer).expr -/
def hn27 : Hn := (.sq .lf (.sq .lf (.jb [] (.sq .lf (.cn .lf (.sq .lf (.cn (.dr [0, 1, 2, 3, 4, 5]) (.js [2, 3, 5, 23] (.sq .lf (.cn .lf .lf)) (.cn .lf (.js [2, 3, 5, 31] (.sq .lf (.cn .lf .lf)) (.cn .lf (.sq .lf (.cn .lf (.sq .lf (.cn (.sq .lf (.sq .lf .lf)) (.sq .lf (.cn .lf (.sq .lf (.cn .lf (.sq .lf (.cn .lf (.sq .lf (.cn (.sq .lf .lf) (.sq .lf (.cn (.sq .lf .lf) (.sq .lf (.cn (.sq .lf .lf) .lf)))))))))))))))))))))))))))
def na27 : Nat := 2
/-- strings.Join -/
def hn28 : Hn := (.sq .lf (.sq (.sq .lf (.bl (.sq .lf (.cn (.sq .lf .lf) (.sq .lf (.cn (.sq .lf .lf) .lf)))))) (.sq .lf (.js [0, 1, 5] (.sq .lf (.cn (.js [0, 1, 5] (.sq .lf (.cn .lf .lf)) .lf) .lf)) (.sq (.sq .lf (.jb [0, 1, 5] (.lo [0, 1, 5, 39, 40, 41] (.sq .lf (.sq (.cn .lf .lf) (.sq (.bl (.sq .lf (.js [0, 1, 5, 7, 39, 40, 41] (.sq .lf (.cn .lf .lf)) .lf))) .lf)))))) (.sq .lf (.sq .lf (.sq .lf (.sq (.sq .lf (.jb [8] (.lo [1, 8, 63, 64, 65] (.sq .lf (.sq (.cn .lf .lf) (.sq (.bl (.sq .lf (.sq .lf .lf))) .lf)))))) (.sq .lf .lf))))))))))
def na28 : Nat := 2
/-- semtype/syntax.sameExpr -/
def hn29 : Hn := (.sq .lf (.sq (.sq .lf (.cn (.sq .lf .lf) .lf)) (.sq (.sq .lf (.cn (.sq .lf .lf) .lf)) (.sq .lf .lf))))
def na29 : Nat := 2
/-- (*semtype/syntax.printer).put -/
def hn30 : Hn := .lf
def na30 : Nat := 2
/-- (*semtype/syntax.printer).line -/
def hn31 : Hn := (.sq .lf .lf)
def na31 : Nat := 2
/-- (*semtype/syntax.printer).separated -/
def hn32 : Hn := (.sq .lf (.jb [] (.lo [0, 1, 3, 9, 10] (.sq .lf (.sq (.cn .lf .lf) (.sq (.bl (.sq .lf (.js [0, 1, 3, 8, 9, 10] (.sq .lf (.cn .lf .lf)) .lf))) .lf))))))
def na32 : Nat := 4
/-- (*semtype/syntax.printer).function -/
def hn37 : Hn := (.sq .lf (.sq .lf .lf))
def na37 : Nat := 2
/-- (*strings.Builder).String -/
def hn38 : Hn := (.sq .lf (.sq (.dr [0, 1, 2, 3, 4, 5, 6, 7, 8, 9, 10, 11]) .lf))
def na38 : Nat := 1
/-- semtype/syntax.sameModule -/
def hn39 : Hn := (.sq .lf (.sq .lf (.sq .lf .lf)))
def na39 : Nat := 2
/-- semtype/words.Scan -/
def hn40 : Hn := (.sq .lf (.sq .lf (.sq .lf (.sq (.sq .lf (.jb [6] (.lo [0, 5, 6] (.sq (.sq .lf (.cn .lf .lf)) (.sq (.bl (.sq .lf (.sq .lf (.sq (.sq .lf (.cn (.sq .lf .lf) .lf)) (.sq .lf .lf))))) .lf))))) (.sq .lf .lf)))))
def na40 : Nat := 1
/-- (*semtype/syntax.parser).take -/
def hn41 : Hn := (.sq .lf (.cn .lf .lf))
def na41 : Nat := 2
/-- (*semtype/syntax.parser).name -/
def hn42 : Hn := (.sq .lf (.sq (.sq .lf (.cn (.sq .lf (.sq .lf .lf)) .lf)) (.sq .lf (.sq (.dr [0, 1, 2, 3, 4, 5, 6, 7, 8, 9, 10, 11, 12]) .lf))))
def na42 : Nat := 1
/-- (*semtype/syntax.parser).skip -/
def hn43 : Hn := (.sq .lf (.sq (.sq .lf (.cn (.sq .lf .lf) .lf)) (.sq .lf (.sq .lf .lf))))
def na43 : Nat := 2
/-- (*semtype/syntax.parser).function -/
def hn46 : Hn := (.sq .lf (.sq .lf (.sq .lf (.js [0, 4, 5] (.sq .lf (.cn .lf .lf)) (.sq .lf (.sq .lf (.sq (.jb [0, 4, 5] (.lo [0, 4, 5] (.sq (.sq .lf (.cn .lf .lf)) (.bl (.sq .lf (.js [0, 4, 5, 6] (.sq (.dr [0, 2, 3, 1, 4]) (.cn .lf .lf)) (.js [0, 4, 5, 6] (.sq .lf (.cn .lf .lf)) (.dr [0, 1, 2, 3, 4, 5, 6, 7, 8, 9, 10])))))))) (.sq .lf (.sq .lf .lf)))))))))
def na46 : Nat := 2
/-- semtype/semtyperef26.skip -/
def hn47 : Hn := (.sq .lf (.sq (.jb [1] (.lo [0, 1] (.sq (.sq .lf (.cn .lf .lf)) (.jb [0, 1] (.sq .lf (.sq .lf (.cn (.jb [0, 1] (.lo [0, 1] (.sq (.sq .lf (.cn .lf .lf)) (.bl .lf)))) (.sq .lf (.cn .lf (.sq .lf .lf)))))))))) (.sq .lf .lf)))
def na47 : Nat := 2
/-- semtype/semtyperef26.one -/
def hn48 : Hn := (.sq .lf (.sq .lf (.sq (.bl (.sq .lf (.cn (.sq .lf .lf) (.js [0, 1, 4, 7, 29] (.sq .lf (.cn .lf .lf)) (.cn (.sq .lf (.sq .lf (.js [1, 4, 8, 9] (.sq .lf (.cn .lf .lf)) (.sq (.sq .lf (.cn (.sq .lf .lf) .lf)) (.sq .lf .lf))))) (.js [0, 1, 4, 7, 54] (.sq .lf (.cn .lf .lf)) (.cn (.sq .lf (.sq (.jb [0, 1, 4, 10] (.lo [0, 1, 4, 10] (.sq (.sq .lf (.cn .lf .lf)) (.bl .lf)))) (.sq .lf (.sq .lf .lf)))) (.sq .lf (.cn (.sq .lf (.sq (.sq .lf (.cn (.sq .lf .lf) .lf)) (.sq .lf (.sq (.sq .lf (.cn (.sq .lf .lf) .lf)) (.sq (.sq .lf (.cn (.sq .lf .lf) .lf)) (.sq .lf .lf)))))) (.sq .lf (.cn (.sq (.sq .lf (.jb [1, 4] (.lo [0, 1, 4, 16] (.sq (.sq .lf (.cn .lf .lf)) (.sq (.bl (.sq .lf (.cn (.sq .lf .lf) .lf))) .lf))))) (.sq .lf .lf)) .lf))))))))))) (.sq (.sq .lf (.jb [1, 4] (.lo [0, 1, 4, 144, 145, 146] (.sq .lf (.sq (.cn .lf .lf) (.sq (.bl (.sq .lf (.sq .lf (.cn (.sq .lf .lf) .lf)))) .lf)))))) (.sq .lf .lf)))))
def na48 : Nat := 2
/-- (*semtype/semtyperef26.reader).expect -/
def hn49 : Hn := (.sq (.sq .lf (.cn .lf .lf)) (.sq (.sq .lf (.cn (.sq .lf .lf) .lf)) .lf))
def na49 : Nat := 2
/-- (*semtype/semtyperef26.reader).name -/
def hn50 : Hn := (.sq .lf (.sq (.sq .lf (.cn (.sq .lf (.sq .lf .lf)) .lf)) (.sq .lf (.sq (.dr [0, 1, 2, 3, 4, 5, 6, 7, 8, 9, 10, 11, 12]) .lf))))
def na50 : Nat := 1
/-- (*semtype/semtyperef26.reader).is -/
def hn51 : Hn := (.sq .lf (.sq .lf (.sq .lf .lf)))
def na51 : Nat := 2
/-- (*semtype/semtyperef26.reader).more -/
def hn52 : Hn := (.sq .lf (.sq (.sq .lf (.cn (.sq .lf .lf) .lf)) (.sq .lf (.sq .lf .lf))))
def na52 : Nat := 1
/-- (*semtype/semtyperef26.reader).peek -/
def hn55 : Hn := (.sq .lf (.sq (.sq (.dr [0, 1, 2, 3, 4, 5, 6, 7, 8, 9]) (.cn (.sq (.dr [0, 1, 2, 3, 4, 5, 6, 7, 8, 9, 10]) .lf) .lf)) (.sq .lf .lf)))
def na55 : Nat := 1
/-- semtype/semtyperef26.Reserved -/
def hn56 : Hn := (.sq .lf (.sq .lf .lf))
def na56 : Nat := 1
/-- (*semtype/semtyperef26.reader).fail -/
def hn57 : Hn := (.sq .lf (.cn .lf .lf))
def na57 : Nat := 3
/-- (*semtype/semtyperef26.reader).at -/
def hn58 : Hn := (.sq .lf (.sq .lf .lf))
def na58 : Nat := 1
/-- (*semtype/semtyperef26.reader).patterns -/
def hn59 : Hn := (.sq .lf (.sq .lf (.sq (.sq .lf (.cn (.sq .lf (.sq .lf .lf)) .lf)) (.sq (.sq .lf (.jb [0, 1, 7] (.lo [0, 1, 2, 7, 8] (.sq (.sq .lf (.cn .lf .lf)) (.sq (.bl (.js [0, 1, 2, 7] (.sq .lf (.cn .lf .lf)) (.sq .lf .lf))) .lf))))) (.sq .lf (.sq .lf .lf))))))
def na59 : Nat := 3
/-- (*semtype/semtyperef26.reader).when -/
def hn60 : Hn := (.sq .lf (.sq .lf (.js [0, 2, 4, 6] (.sq .lf (.cn (.sq .lf .lf) .lf)) (.sq .lf (.sq .lf (.sq .lf .lf))))))
def na60 : Nat := 3
/-- semtype/semtyperef26.SameGuard -/
def hn62 : Hn := (.sq .lf (.sq (.sq .lf (.cn (.sq .lf .lf) .lf)) (.sq (.sq .lf (.jb [] (.lo [2, 3, 50, 51] (.sq .lf (.sq (.cn .lf .lf) (.sq (.bl (.sq .lf (.sq (.dr [0, 1, 2, 3, 4, 5, 6, 7, 8, 9, 10, 11]) (.cn (.sq .lf .lf) .lf)))) .lf)))))) (.sq .lf .lf))))
def na62 : Nat := 2
/-- semtype/semtyperef26.SameExpr -/
def hn63 : Hn := (.sq .lf (.sq (.sq .lf (.cn (.sq .lf .lf) .lf)) (.sq (.sq .lf (.jb [2, 3, 4] (.lo [2, 3, 4, 79, 80] (.sq .lf (.sq (.cn .lf .lf) (.sq (.bl (.sq .lf (.sq (.dr [0, 1, 2, 3, 4, 5, 6, 7, 8, 9, 10]) (.cn (.sq .lf .lf) .lf)))) .lf)))))) (.sq (.sq .lf (.jb [2, 3, 4] (.lo [2, 3, 4, 97, 98] (.sq .lf (.sq (.cn .lf .lf) (.sq (.bl (.sq .lf (.sq (.dr [0, 1, 2, 3, 4, 5, 6, 7, 8, 9, 10, 11, 12]) (.cn (.sq .lf .lf) .lf)))) .lf)))))) (.sq .lf .lf)))))
def na63 : Nat := 3
/-- semtype/semtyperef26.SamePattern -/
def hn64 : Hn := (.sq .lf (.sq (.sq .lf (.cn (.sq .lf .lf) .lf)) (.sq (.sq .lf (.jb [2, 3] (.lo [2, 3, 46, 47] (.sq .lf (.sq (.cn .lf .lf) (.sq (.bl (.sq .lf (.sq (.dr [0, 1, 2, 3, 4, 5, 6, 7, 8, 9, 10]) (.cn (.sq .lf .lf) .lf)))) .lf)))))) (.sq (.sq .lf (.jb [] (.lo [2, 3, 64, 65] (.sq .lf (.sq (.cn .lf .lf) (.sq (.bl (.sq .lf (.sq (.dr [0, 1, 2, 3, 4, 5, 6, 7, 8, 9, 10, 11]) (.cn (.sq .lf .lf) .lf)))) .lf)))))) (.sq .lf .lf)))))
def na64 : Nat := 2
/-- (*semtype/syntax.parser).expr -/
def hn65 : Hn := (.sq .lf (.sq .lf (.sq (.sq .lf (.cn (.sq .lf (.sq .lf .lf)) .lf)) (.sq (.sq .lf (.cn (.sq .lf (.sq .lf .lf)) .lf)) (.sq .lf (.sq .lf (.sq (.jb [8, 9, 10] (.sq .lf (.cn .lf (.sq .lf (.cn .lf (.sq .lf (.cn .lf (.sq .lf (.cn .lf (.sq .lf (.cn .lf .lf))))))))))) (.sq .lf (.sq .lf .lf)))))))))
def na65 : Nat := 4
/-- (*semtype/syntax.parser).syntax -/
def hn66 : Hn := .lf
def na66 : Nat := 1
/-- (*semtype/syntax.printer).number -/
def hn67 : Hn := .lf
def na67 : Nat := 2
/-- (*semtype/syntax.printer).exprList -/
def hn69 : Hn := (.sq .lf (.sq .lf (.sq (.jb [2, 3, 4] (.lo [2, 3, 4] (.sq (.sq .lf (.cn .lf .lf)) (.sq (.bl (.dr [0, 1, 2, 3, 4, 5, 6, 7, 8, 9, 10])) .lf)))) (.sq .lf (.sq .lf (.js [2] (.sq .lf (.cn (.sq .lf .lf) .lf)) .lf))))))
def na69 : Nat := 2
/-- (*strings.Builder).Grow -/
def hn76 : Hn := (.sq .lf (.js [0, 1] (.sq .lf (.cn .lf .lf)) (.sq (.dr [0, 1, 2, 3, 4, 5, 6, 7, 8, 9, 10, 11, 12]) (.cn .lf .lf))))
def na76 : Nat := 2
/-- (*strings.Builder).WriteString -/
def hn77 : Hn := (.sq .lf (.sq .lf (.sq .lf (.sq .lf .lf))))
def na77 : Nat := 2
/-- slices.Equal[[]semtype/api.Key,semtype/api.Key] -/
def hn78 : Hn := (.sq .lf (.sq (.sq .lf (.cn (.sq .lf .lf) .lf)) (.sq (.sq .lf (.jb [] (.lo [0, 1, 12, 13] (.sq .lf (.sq (.cn .lf .lf) (.sq (.bl (.sq .lf (.sq (.dr [0, 1, 2, 3, 4, 5, 6, 7, 8]) (.cn (.sq .lf .lf) .lf)))) .lf)))))) (.sq .lf .lf))))
def na78 : Nat := 2
/-- semtype/syntax.empty -/
def hn80 : Hn := (.sq .lf (.sq .lf .lf))
def na80 : Nat := 1
/-- slices.EqualFunc[[]semtype/api.Expr,[]semtype/api.Expr,semtype/api.Expr,semtype/api.Expr] -/
def hn81 : Hn := (.sq .lf (.sq (.sq .lf (.cn (.sq .lf .lf) .lf)) (.sq (.sq .lf (.jb [] (.lo [1, 2, 15, 16, 17] (.sq .lf (.sq (.cn .lf .lf) (.sq (.bl (.sq .lf (.sq .lf (.sq .lf (.cn (.sq .lf .lf) .lf))))) .lf)))))) (.sq .lf .lf))))
def na81 : Nat := 3
/-- slices.EqualFunc[[]semtype/api.Clause,[]semtype/api.Clause,semtype/api.Clause,semtype/api.Clause] -/
def hn82 : Hn := (.sq .lf (.sq (.sq .lf (.cn (.sq .lf .lf) .lf)) (.sq (.sq .lf (.jb [] (.lo [1, 2, 15, 16, 17] (.sq .lf (.sq (.cn .lf .lf) (.sq (.bl (.sq .lf (.sq .lf (.sq .lf (.cn (.sq .lf .lf) .lf))))) .lf)))))) (.sq .lf .lf))))
def na82 : Nat := 3
/-- semtype/syntax.sameClause -/
def hn83 : Hn := (.sq .lf (.sq .lf .lf))
def na83 : Nat := 2
/-- (*semtype/syntax.printer).function$1 -/
def hn85 : Hn := (.sq .lf (.sq (.dr [0, 1, 2, 3, 4, 5, 6, 7]) (.dr [0, 1, 2, 3, 4, 5, 6])))
def na85 : Nat := 3
/-- (*semtype/syntax.printer).patterns -/
def hn86 : Hn := (.sq .lf (.sq .lf (.sq .lf .lf)))
def na86 : Nat := 4
/-- (*semtype/syntax.printer).body -/
def hn87 : Hn := (.sq .lf (.js [0, 3] (.sq .lf (.cn (.sq .lf .lf) .lf)) (.sq .lf .lf)))
def na87 : Nat := 2
/-- slices.Equal[[]string,string] -/
def hn89 : Hn := (.sq .lf (.sq (.sq .lf (.cn (.sq .lf .lf) .lf)) (.sq (.sq .lf (.jb [] (.lo [0, 1, 12, 13] (.sq .lf (.sq (.cn .lf .lf) (.sq (.bl (.sq .lf (.sq (.dr [0, 1, 2, 3, 4, 5, 6, 7, 8]) (.cn (.sq .lf .lf) .lf)))) .lf)))))) (.sq .lf .lf))))
def na89 : Nat := 2
/-- slices.Equal[[]semtype/api.Ref,semtype/api.Ref] -/
def hn90 : Hn := (.sq .lf (.sq (.sq .lf (.cn (.sq .lf .lf) .lf)) (.sq (.sq .lf (.jb [] (.lo [0, 1, 12, 13] (.sq .lf (.sq (.cn .lf .lf) (.sq (.bl (.sq .lf (.sq (.dr [0, 1, 2, 3, 4, 5, 6, 7, 8]) (.cn (.sq .lf .lf) .lf)))) .lf)))))) (.sq .lf .lf))))
def na90 : Nat := 2
/-- slices.EqualFunc[[]semtype/api.Signature,[]semtype/api.Signature,semtype/api.Signature,semtype/api.Signature] -/
def hn91 : Hn := (.sq .lf (.sq (.sq .lf (.cn (.sq .lf .lf) .lf)) (.sq (.sq .lf (.jb [] (.lo [1, 2, 15, 16, 17] (.sq .lf (.sq (.cn .lf .lf) (.sq (.bl (.sq .lf (.sq .lf (.sq .lf (.cn (.sq .lf .lf) .lf))))) .lf)))))) (.sq .lf .lf))))
def na91 : Nat := 3
/-- slices.EqualFunc[[]semtype/api.Function,[]semtype/api.Function,semtype/api.Function,semtype/api.Function] -/
def hn92 : Hn := (.sq .lf (.sq (.sq .lf (.cn (.sq .lf .lf) .lf)) (.sq (.sq .lf (.jb [] (.lo [1, 2, 15, 16, 17] (.sq .lf (.sq (.cn .lf .lf) (.sq (.bl (.sq .lf (.sq .lf (.sq .lf (.cn (.sq .lf .lf) .lf))))) .lf)))))) (.sq .lf .lf))))
def na92 : Nat := 3
/-- semtype/syntax.sameFunction -/
def hn93 : Hn := (.sq .lf (.sq .lf .lf))
def na93 : Nat := 2
/-- (*semtype/words.scanner).skip -/
def hn94 : Hn := (.jb [] (.lo [0] (.sq (.sq (.dr [0, 1, 2, 3, 4, 5, 6, 7, 8, 9]) (.cn .lf .lf)) (.sq (.bl (.sq (.dr [0, 1, 2, 3, 4, 5, 6, 7, 8]) (.jb [0] (.js [0, 27, 28] (.sq .lf (.cn .lf (.sq .lf (.cn .lf (.sq .lf (.cn .lf .lf)))))) (.cn .lf (.sq .lf (.cn (.jb [0] (.lo [0] (.sq (.sq (.dr [0, 1, 2, 3, 4, 5, 6, 7, 8, 9, 10, 11, 12, 13, 14, 15, 16, 17, 18, 19, 20, 21, 22, 23]) (.cn .lf .lf)) (.bl .lf)))) .lf))))))) .lf))))
def na94 : Nat := 1
/-- (*semtype/words.scanner).next -/
def hn95 : Hn := (.sq .lf (.sq (.sq (.dr [0, 1, 2, 3, 4, 5, 6, 7, 8, 9]) (.bl (.sq .lf (.cn (.sq .lf .lf) (.sq .lf (.cn (.sq .lf .lf) (.sq .lf (.cn (.sq .lf (.sq .lf .lf)) (.sq (.dr [0, 1, 2, 3, 4, 5, 6, 7, 8, 9, 10, 11, 12, 13, 14, 15, 16, 17, 18, 19, 20, 21, 22, 23, 24, 25, 26, 27, 28, 29, 30, 31, 32]) (.cn (.sq .lf .lf) (.sq .lf (.cn (.sq .lf .lf) (.sq .lf (.cn (.sq .lf .lf) .lf)))))))))))))) (.sq .lf .lf)))
def na95 : Nat := 1
/-- semtype/syntax.plain -/
def hn96 : Hn := (.sq .lf (.sq .lf .lf))
def na96 : Nat := 1
/-- (*semtype/syntax.parser).ahead -/
def hn97 : Hn := (.sq .lf (.sq (.sq (.dr [0, 1, 2, 3, 4, 5, 6, 7, 8, 9, 10, 11, 12, 13, 14, 15, 16, 17, 18]) (.cn (.sq .lf .lf) .lf)) (.sq (.dr [0, 1, 2, 3, 4, 5, 6, 7, 8, 9, 10, 11, 12]) .lf)))
def na97 : Nat := 2
/-- (*semtype/syntax.parser).is -/
def hn98 : Hn := (.sq .lf (.sq .lf (.sq .lf .lf)))
def na98 : Nat := 2
/-- (*semtype/syntax.parser).pos -/
def hn100 : Hn := (.sq .lf (.sq (.sq (.dr [0, 1, 2, 3, 4, 5, 6, 7, 8, 9]) (.cn (.sq (.dr [0, 1, 2, 3, 4, 5, 6, 7, 8, 9, 10, 11]) .lf) .lf)) (.sq .lf .lf)))
def na100 : Nat := 1
/-- (*semtype/syntax.parser).fail -/
def hn103 : Hn := (.sq .lf (.cn .lf .lf))
def na103 : Nat := 3
/-- (*semtype/syntax.parser).clause -/
def hn104 : Hn := (.sq .lf (.sq .lf (.sq .lf (.sq .lf (.js [3, 4, 8, 9] (.sq .lf (.cn .lf .lf)) (.sq .lf (.sq .lf (.sq .lf (.sq .lf .lf)))))))))
def na104 : Nat := 4
/-- semtype/semtyperef26.lower -/
def hn105 : Hn := (.sq .lf (.sq .lf .lf))
def na105 : Nat := 1
/-- semtype/semtyperef26.upper -/
def hn106 : Hn := (.sq .lf (.sq .lf .lf))
def na106 : Nat := 1
/-- semtype/semtyperef26.word -/
def hn107 : Hn := (.sq .lf (.sq .lf (.sq (.jb [5] (.lo [0, 1, 5] (.sq (.sq .lf (.cn .lf .lf)) (.bl .lf)))) (.sq .lf .lf))))
def na107 : Nat := 2
/-- semtype/semtyperef26.digit -/
def hn108 : Hn := (.sq .lf (.sq .lf .lf))
def na108 : Nat := 1
/-- semtype/semtyperef26.byteAt -/
def hn109 : Hn := (.sq .lf (.sq (.sq .lf (.cn (.sq .lf .lf) .lf)) (.sq .lf .lf)))
def na109 : Nat := 2
/-- semtype/semtyperef26.number -/
def hn110 : Hn := (.sq .lf (.sq .lf (.sq .lf (.js [4, 5] (.sq .lf (.cn .lf .lf)) (.sq (.sq .lf (.cn (.sq .lf .lf) .lf)) (.sq .lf (.sq (.sq .lf (.jb [4, 6] (.lo [4, 5, 6, 7] (.sq (.sq .lf (.cn .lf .lf)) (.sq (.bl (.sq (.sq .lf (.cn (.sq .lf .lf) .lf)) .lf)) .lf))))) (.sq (.sq .lf (.cn (.sq .lf .lf) .lf)) (.sq (.sq .lf (.cn (.sq .lf .lf) .lf)) (.sq .lf .lf))))))))))
def na110 : Nat := 1
/-- semtype/semtyperef26.signs -/
def hn113 : Hn := (.sq .lf (.sq .lf .lf))
def na113 : Nat := 0
/-- semtype/semtyperef26.Among -/
def hn117 : Hn := (.sq .lf (.sq (.sq .lf (.jb [] (.lo [1, 7, 8, 9] (.sq .lf (.sq (.cn .lf .lf) (.sq (.bl (.sq .lf (.sq .lf (.cn (.sq .lf .lf) .lf)))) .lf)))))) (.sq .lf .lf)))
def na117 : Nat := 2
/-- semtype/semtyperef26.reserved -/
def hn118 : Hn := (.sq .lf (.sq .lf .lf))
def na118 : Nat := 0
/-- (*semtype/semtyperef26.reader).startsPattern -/
def hn119 : Hn := (.sq .lf (.sq .lf (.sq .lf .lf)))
def na119 : Nat := 1
/-- (*semtype/semtyperef26.reader).pattern -/
def hn120 : Hn := (.sq .lf (.sq (.sq .lf (.cn (.sq .lf (.sq .lf .lf)) .lf)) (.sq .lf (.sq .lf (.sq (.bl (.sq .lf (.cn (.sq .lf .lf) (.sq .lf (.cn (.sq .lf .lf) (.sq .lf (.cn (.sq .lf .lf) (.sq .lf (.cn (.sq .lf .lf) (.sq .lf (.cn (.sq .lf .lf) (.sq .lf (.cn (.sq .lf .lf) (.sq .lf (.cn (.sq .lf .lf) (.sq .lf (.cn (.sq .lf .lf) .lf))))))))))))))))) (.sq .lf (.sq .lf (.sq .lf (.sq .lf (.sq .lf .lf))))))))))
def na120 : Nat := 1
/-- (*semtype/semtyperef26.reader).expr -/
def hn122 : Hn := (.sq .lf (.sq .lf (.sq .lf (.sq (.sq .lf (.cn (.sq .lf (.sq .lf .lf)) .lf)) (.sq .lf (.sq (.sq .lf (.cn (.sq .lf .lf) .lf)) (.sq .lf (.sq .lf (.sq .lf (.sq (.jb [4, 7] (.sq .lf (.cn (.dr [0, 1, 2, 3, 4, 5]) (.sq .lf (.cn (.dr [0, 1, 2, 3, 4, 5]) (.sq .lf (.cn (.dr [0, 1, 2, 3, 4, 5]) (.sq .lf (.cn (.sq .lf .lf) (.sq .lf (.cn (.sq .lf .lf) (.sq .lf (.cn (.sq .lf .lf) (.sq .lf (.cn (.sq .lf .lf) (.sq .lf (.cn .lf (.sq .lf (.cn (.sq .lf .lf) (.sq .lf (.cn (.sq .lf (.dr [0, 1, 2, 3, 4, 5, 6, 7, 8, 9])) (.sq .lf .lf)))))))))))))))))))))) (.sq .lf .lf)))))))))))
def na122 : Nat := 2
/-- semtype/syntax.exprBegins -/
def hn124 : Hn := (.sq .lf (.sq (.sq .lf (.jb [1] (.js [1, 6, 7] (.sq .lf (.cn .lf .lf)) (.cn (.sq .lf .lf) (.sq .lf (.cn (.sq .lf .lf) (.sq .lf (.cn (.sq .lf .lf) (.sq .lf (.cn (.sq .lf (.jb [1] (.lo [1, 41, 42, 43] (.sq .lf (.sq (.cn .lf .lf) (.sq (.bl (.sq .lf (.sq .lf (.cn (.sq .lf .lf) .lf)))) .lf)))))) .lf)))))))))) (.sq .lf .lf)))
def na124 : Nat := 1
/-- (*semtype/syntax.parser).word -/
def hn126 : Hn := (.sq .lf (.sq (.sq .lf (.bl (.js [0, 1, 2, 3, 8, 12, 13] (.sq .lf (.cn .lf .lf)) (.cn (.sq .lf .lf) (.sq .lf (.cn (.sq .lf .lf) (.sq .lf (.cn (.sq .lf .lf) (.sq .lf (.cn (.sq .lf .lf) (.js [0, 1, 2, 8, 12, 36] (.sq .lf (.cn .lf .lf)) (.cn (.sq .lf (.js [0, 2, 8, 9] (.sq .lf (.cn (.sq .lf .lf) .lf)) (.sq .lf (.sq .lf (.sq .lf .lf))))) (.sq .lf (.cn (.sq .lf (.js [0, 8, 10] (.sq .lf (.cn .lf .lf)) (.sq .lf (.sq .lf .lf)))) (.sq .lf (.cn (.sq .lf (.sq .lf (.sq .lf (.sq .lf (.sq .lf (.sq .lf .lf)))))) .lf)))))))))))))))) (.sq .lf .lf)))
def na126 : Nat := 4
/-- (*semtype/syntax.parser).signed -/
def hn127 : Hn := (.sq .lf (.sq (.sq .lf (.bl (.sq .lf (.cn (.sq .lf .lf) (.sq .lf (.cn (.sq .lf (.sq .lf (.sq .lf .lf))) (.sq .lf (.cn (.sq .lf (.sq .lf (.sq .lf .lf))) (.sq .lf (.cn (.sq .lf (.sq .lf .lf)) .lf)))))))))) (.sq .lf .lf)))
def na127 : Nat := 3
/-- strconv.FormatInt -/
def hn128 : Hn := (.sq .lf (.sq .lf .lf))
def na128 : Nat := 2
/-- (*semtype/syntax.printer).exprList$1 -/
def hn132 : Hn := (.dr [0, 1, 2, 3, 4, 5])
def na132 : Nat := 3
/-- (*strings.Builder).copyCheck -/
def hn137 : Hn := (.sq .lf (.cn .lf (.sq .lf (.cn .lf .lf))))
def na137 : Nat := 1
/-- (*strings.Builder).grow -/
def hn138 : Hn := (.sq (.dr [0, 1, 2, 3, 4, 5, 6, 7, 9, 10, 11, 12, 13, 8, 14, 15]) (.sq .lf .lf))
def na138 : Nat := 2
/-- slices.EqualFunc[[]semtype/api.Pattern,[]semtype/api.Pattern,semtype/api.Pattern,semtype/api.Pattern] -/
def hn141 : Hn := (.sq .lf (.sq (.sq .lf (.cn (.sq .lf .lf) .lf)) (.sq (.sq .lf (.jb [] (.lo [1, 2, 15, 16, 17] (.sq .lf (.sq (.cn .lf .lf) (.sq (.bl (.sq .lf (.sq .lf (.sq .lf (.cn (.sq .lf .lf) .lf))))) .lf)))))) (.sq .lf .lf))))
def na141 : Nat := 3
/-- semtype/syntax.samePattern -/
def hn142 : Hn := (.sq .lf (.sq .lf .lf))
def na142 : Nat := 2
/-- semtype/syntax.sameGuard -/
def hn143 : Hn := (.sq .lf (.sq .lf .lf))
def na143 : Nat := 2
/-- (*semtype/syntax.printer).patterns$1 -/
def hn150 : Hn := (.dr [0, 1, 2, 3, 4, 5])
def na150 : Nat := 3
/-- (*semtype/syntax.printer).pattern -/
def hn151 : Hn := (.sq .lf (.sq .lf (.jb [] (.sq .lf (.cn .lf (.js [2, 3, 5, 11] (.sq .lf (.cn .lf .lf)) (.cn .lf (.sq .lf (.cn .lf (.sq .lf (.cn (.dr [0, 1, 2, 3, 4, 5]) (.js [2, 3, 5, 33] (.sq .lf (.cn .lf .lf)) (.cn .lf (.sq .lf (.cn .lf (.sq .lf (.cn (.sq .lf (.sq .lf .lf)) (.sq .lf (.cn (.sq .lf .lf) .lf)))))))))))))))))))
def na151 : Nat := 2
/-- semtype/words.lower -/
def hn153 : Hn := (.sq .lf (.sq .lf .lf))
def na153 : Nat := 1
/-- semtype/words.word -/
def hn154 : Hn := (.sq .lf (.sq (.sq .lf (.cn (.sq .lf .lf) .lf)) (.sq .lf .lf)))
def na154 : Nat := 2
/-- (*semtype/words.scanner).run -/
def hn155 : Hn := (.sq .lf (.sq .lf (.sq (.sq .lf (.jb [0, 5] (.lo [0, 1, 5] (.sq (.sq (.dr [0, 1, 2, 3, 4, 5, 6, 7, 8, 9, 10, 11, 12, 13, 14, 15, 16, 17, 18, 19, 20, 21, 22]) (.cn .lf .lf)) (.sq (.bl .lf) .lf))))) (.sq (.dr [0, 1, 2, 3, 4, 5, 6, 7, 8, 9, 10]) .lf))))
def na155 : Nat := 2
/-- (*semtype/words.scanner).next$1 -/
def hn156 : Hn := (.sq .lf (.sq .lf .lf))
def na156 : Nat := 1
/-- semtype/words.digit -/
def hn157 : Hn := (.sq .lf (.sq .lf .lf))
def na157 : Nat := 1
/-- semtype/words.upper -/
def hn158 : Hn := (.sq .lf (.sq .lf .lf))
def na158 : Nat := 1
/-- (*semtype/words.scanner).next$2 -/
def hn159 : Hn := (.sq .lf (.sq .lf .lf))
def na159 : Nat := 1
/-- (*semtype/words.scanner).number -/
def hn160 : Hn := (.sq .lf (.sq .lf (.sq .lf (.sq (.sq .lf (.cn (.sq .lf .lf) .lf)) (.sq .lf (.sq (.sq .lf (.cn (.sq .lf .lf) .lf)) (.sq .lf .lf)))))))
def na160 : Nat := 1
/-- (*semtype/words.scanner).sign -/
def hn163 : Hn := (.sq .lf (.sq (.sq .lf (.jb [2] (.lo [0, 2, 6, 7, 8] (.sq .lf (.sq (.cn .lf .lf) (.sq (.bl (.sq .lf (.sq (.dr [0, 1, 2, 3, 4, 5, 6, 7, 8, 9, 10]) (.cn (.sq .lf (.sq .lf .lf)) .lf)))) .lf)))))) (.sq .lf .lf)))
def na163 : Nat := 1
/-- semtype/token.Reserved -/
def hn164 : Hn := (.sq .lf (.sq .lf (.sq .lf .lf)))
def na164 : Nat := 1
/-- (*semtype/syntax.parser).separated -/
def hn168 : Hn := (.sq (.sq .lf (.cn .lf .lf)) (.sq (.sq .lf (.jb [0, 1] (.lo [0, 1, 2] (.sq (.sq .lf (.cn .lf .lf)) (.sq (.bl .lf) .lf))))) .lf))
def na168 : Nat := 3
/-- (*semtype/syntax.parser).clause$1 -/
def hn169 : Hn := (.dr [0, 1, 2, 3, 4, 5, 6, 8, 9, 7, 10, 11, 13, 12, 14])
def na169 : Nat := 2
/-- (*semtype/syntax.parser).pattern -/
def hn170 : Hn := (.sq .lf (.sq .lf (.sq (.sq .lf (.cn (.sq .lf (.sq .lf .lf)) .lf)) (.sq (.sq .lf (.cn (.sq .lf (.sq .lf .lf)) .lf)) (.sq .lf (.sq (.sq .lf (.bl (.sq .lf (.cn (.sq .lf .lf) (.sq .lf (.cn (.sq .lf .lf) (.sq .lf (.cn (.sq (.sq .lf (.cn (.sq .lf .lf) .lf)) (.sq .lf .lf)) (.sq .lf (.cn (.sq .lf .lf) .lf)))))))))) (.sq (.sq .lf (.bl (.sq .lf (.cn (.sq .lf .lf) (.sq .lf (.cn (.sq .lf (.sq .lf (.sq .lf .lf))) (.sq .lf (.cn (.sq .lf (.sq .lf (.sq .lf .lf))) .lf)))))))) (.sq .lf (.sq .lf (.sq .lf (.sq .lf (.sq .lf .lf))))))))))))
def na170 : Nat := 2
/-- (*semtype/syntax.parser).when -/
def hn171 : Hn := (.sq .lf (.sq (.sq .lf (.cn (.sq .lf .lf) .lf)) (.sq .lf .lf)))
def na171 : Nat := 1
/-- (*semtype/semtyperef26.reader).sign -/
def hn179 : Hn := (.sq .lf (.sq (.dr [0, 1, 2, 3, 4, 5, 6, 7, 8, 9, 10, 11, 12, 13, 14, 15, 16, 17, 18, 19, 20, 21, 22, 23, 24, 25, 26, 27, 28, 29, 30, 31, 32, 33, 34, 35, 36, 37, 38, 39, 40, 41, 42, 43, 44, 45]) .lf))
def na179 : Nat := 3
/-- (*semtype/semtyperef26.reader).isVariable -/
def hn184 : Hn := (.sq .lf (.sq .lf .lf))
def na184 : Nat := 1
/-- (*semtype/semtyperef26.reader).startsExpr -/
def hn186 : Hn := (.sq .lf (.sq .lf (.sq (.dr [0, 1, 2, 3, 4, 5, 6, 7, 8, 9, 10, 11, 12, 13, 14, 15, 16, 17, 18, 19, 20, 22, 23, 21, 24, 25, 26, 27, 28, 29, 30, 31, 32, 33, 34, 35, 36, 37, 38, 39, 40, 41, 42, 43, 44, 45, 46, 47]) .lf)))
def na186 : Nat := 1
/-- (*semtype/semtyperef26.reader).deep -/
def hn187 : Hn := .lf
def na187 : Nat := 2
/-- (*semtype/semtyperef26.reader).worded -/
def hn188 : Hn := (.sq .lf (.sq (.sq .lf (.jb [6, 10] (.sq .lf (.cn (.sq .lf (.sq .lf (.sq .lf (.sq .lf (.sq .lf (.sq (.dr [0, 1, 2, 3, 4, 5, 6, 7]) .lf)))))) (.sq .lf (.cn (.sq .lf (.sq .lf (.sq .lf (.sq .lf .lf)))) (.sq .lf (.cn (.sq .lf (.sq .lf (.sq .lf (.js [6, 10, 12, 13] (.sq .lf (.cn (.js [0, 3, 6, 10, 12] (.sq .lf (.cn .lf .lf)) .lf) .lf)) .lf)))) (.sq .lf (.cn .lf (.sq .lf (.cn (.sq .lf (.sq .lf (.sq .lf (.sq .lf (.sq .lf (.sq .lf (.sq .lf (.sq .lf .lf)))))))) (.js [0, 2, 3, 6, 10, 17, 122] (.sq .lf (.cn .lf .lf)) (.cn (.sq .lf (.sq .lf (.js [0, 3, 6, 10, 15] (.sq .lf (.cn .lf .lf)) (.sq .lf (.sq .lf (.sq .lf .lf)))))) (.js [0, 2, 3, 6, 10, 17, 145] (.sq .lf (.cn .lf .lf)) (.cn (.sq .lf (.js [0, 3, 6, 10] (.sq .lf (.cn .lf .lf)) (.sq .lf .lf))) (.sq .lf (.cn (.sq .lf (.sq .lf (.sq .lf (.sq .lf (.sq .lf (.sq .lf .lf)))))) (.sq .lf (.cn (.sq .lf (.sq .lf .lf)) (.sq .lf (.cn (.sq .lf (.sq .lf (.sq .lf (.sq (.dr [0, 1, 2, 3, 4, 5, 6, 7]) .lf)))) (.sq .lf (.cn (.sq .lf (.js [0, 6, 10] (.sq .lf (.cn (.sq .lf .lf) .lf)) .lf)) .lf)))))))))))))))))))))))) (.sq .lf .lf)))
def na188 : Nat := 5
/-- (*semtype/semtyperef26.reader).exprs -/
def hn191 : Hn := (.sq .lf (.sq .lf (.sq (.sq .lf (.cn (.sq .lf (.sq .lf .lf)) .lf)) (.sq (.sq .lf (.jb [0, 1, 9] (.lo [0, 1, 2, 3, 9, 10] (.sq (.sq .lf (.cn .lf .lf)) (.sq (.bl (.js [0, 1, 2, 3, 9] (.sq .lf (.cn .lf .lf)) (.sq .lf .lf))) .lf))))) (.sq .lf (.sq .lf .lf))))))
def na191 : Nat := 4
/-- (*semtype/semtyperef26.reader).mapExpr -/
def hn192 : Hn := (.sq .lf (.sq .lf (.sq (.sq .lf (.cn (.sq .lf (.sq .lf .lf)) .lf)) (.sq (.sq .lf (.jb [0, 4, 6] (.lo [0, 2, 4, 6, 7] (.sq (.sq .lf (.cn .lf .lf)) (.sq (.bl (.sq .lf (.sq .lf (.sq .lf (.dr [0, 1, 2, 3, 4, 5, 6, 7, 8, 9]))))) .lf))))) (.sq .lf (.sq .lf .lf))))))
def na192 : Nat := 3
/-- semtype/syntax.variable -/
def hn196 : Hn := (.sq .lf (.sq .lf .lf))
def na196 : Nat := 1
/-- strings.Fields -/
def hn197 : Hn := (.sq .lf (.sq .lf (.sq .lf (.sq .lf (.sq (.sq .lf (.jb [0, 3, 5] (.lo [0, 3, 4, 5, 6] (.sq (.sq .lf (.cn .lf .lf)) (.sq (.bl (.sq .lf (.sq .lf (.sq .lf (.sq .lf .lf))))) .lf))))) (.sq (.sq .lf (.cn (.sq .lf .lf) .lf)) (.sq .lf (.sq .lf (.sq .lf (.sq .lf (.sq (.jb [0, 9, 10, 12] (.lo [0, 9, 10, 12] (.sq (.sq .lf (.cn .lf .lf)) (.bl .lf)))) (.sq .lf (.sq (.jb [0, 9, 10, 11] (.lo [0, 9, 10, 11, 12] (.sq (.sq .lf (.cn .lf .lf)) (.jb [0, 9, 10, 11, 12] (.sq (.sq .lf (.cn (.sq .lf .lf) .lf)) (.sq .lf (.sq .lf (.sq .lf (.sq (.jb [0, 9, 10, 12] (.lo [0, 9, 10, 12] (.sq (.sq .lf (.cn .lf .lf)) (.bl .lf)))) .lf))))))))) (.js [9] (.sq .lf (.cn .lf .lf)) (.sq .lf .lf)))))))))))))))
def na197 : Nat := 1
/-- (*semtype/syntax.parser).branches -/
def hn203 : Hn := (.sq .lf (.sq .lf (.sq (.jb [5] (.lo [0, 1, 5] (.sq (.sq .lf (.cn .lf .lf)) (.bl .lf)))) (.sq .lf .lf))))
def na203 : Nat := 2
/-- (*semtype/syntax.parser).list -/
def hn205 : Hn := (.sq .lf (.sq (.sq .lf (.cn (.sq .lf .lf) .lf)) (.sq .lf (.sq (.jb [0, 1, 2, 6, 7] (.lo [0, 1, 2, 6, 7] (.sq (.sq .lf (.cn .lf .lf)) (.bl .lf)))) (.sq .lf (.js [1, 6, 7, 8] (.sq .lf (.cn (.sq .lf .lf) (.sq .lf (.js [0, 1, 6, 7, 8] (.sq .lf (.cn .lf .lf)) .lf)))) (.sq (.sq .lf (.jb [1, 6, 8] (.lo [1, 6, 7, 8, 9] (.sq (.sq .lf (.cn .lf .lf)) (.sq (.bl (.dr [0, 1, 2, 3, 4, 5, 6, 7, 8, 9, 10, 11, 12])) .lf))))) (.sq .lf (.sq .lf .lf)))))))))
def na205 : Nat := 3
/-- (*semtype/syntax.parser).signed$1 -/
def hn206 : Hn := (.dr [0, 1, 2, 3, 4, 5, 6, 7, 8, 10, 11, 9, 12, 13, 15, 14, 16])
def na206 : Nat := 3
/-- (*semtype/syntax.parser).signed$2 -/
def hn207 : Hn := (.sq (.dr [0, 1, 2, 3, 4, 5, 6, 7, 8, 9]) (.sq .lf (.dr [0, 1, 2, 3, 4, 6, 7, 5, 8, 9, 11, 10, 12])))
def na207 : Nat := 3
/-- (*semtype/syntax.parser).key -/
def hn208 : Hn := (.sq .lf (.sq .lf (.sq (.sq .lf (.jb [0, 1, 4, 5, 6] (.sq .lf (.cn .lf (.sq .lf (.cn .lf (.sq .lf (.sq .lf .lf)))))))) (.sq .lf (.js [0, 1, 4, 5, 6] (.sq (.dr [0, 1, 2, 3, 4, 5, 6, 7, 8, 9, 10, 11, 12, 13]) (.cn .lf .lf)) (.js [4, 5] (.sq .lf (.cn .lf .lf)) (.sq .lf .lf)))))))
def na208 : Nat := 2
/-- internal/strconv.FormatInt -/
def hn210 : Hn := (.sq .lf (.sq (.sq .lf (.cn (.sq (.sq .lf (.cn (.sq .lf .lf) .lf)) (.sq .lf (.sq .lf (.js [0, 5, 6] (.sq .lf (.cn .lf .lf)) (.sq .lf (.sq .lf (.sq (.sq .lf (.cn (.sq .lf (.sq .lf .lf)) .lf)) (.sq .lf .lf)))))))) .lf)) (.sq .lf (.sq .lf .lf))))
def na210 : Nat := 2
/-- slices.EqualFunc[[]semtype/api.Guard,[]semtype/api.Guard,semtype/api.Guard,semtype/api.Guard] -/
def hn223 : Hn := (.sq .lf (.sq (.sq .lf (.cn (.sq .lf .lf) .lf)) (.sq (.sq .lf (.jb [] (.lo [1, 2, 15, 16, 17] (.sq .lf (.sq (.cn .lf .lf) (.sq (.bl (.sq .lf (.sq .lf (.sq .lf (.cn (.sq .lf .lf) .lf))))) .lf)))))) (.sq .lf .lf))))
def na223 : Nat := 3
/-- strings.TrimPrefix -/
def hn236 : Hn := (.sq .lf (.sq .lf .lf))
def na236 : Nat := 2
/-- strconv.ParseInt -/
def hn237 : Hn := (.sq .lf (.sq .lf (.sq (.sq .lf (.cn (.sq .lf .lf) .lf)) (.sq .lf .lf))))
def na237 : Nat := 3
/-- strings.HasPrefix -/
def hn240 : Hn := (.sq .lf (.sq .lf .lf))
def na240 : Nat := 2
/-- semtype/syntax.patternBegins -/
def hn244 : Hn := (.sq .lf (.sq (.sq .lf (.bl (.js [1, 4, 5] (.sq .lf (.cn .lf (.sq .lf (.cn .lf .lf)))) (.cn (.sq .lf .lf) (.sq .lf (.cn (.sq .lf .lf) .lf)))))) (.sq .lf .lf)))
def na244 : Nat := 1
/-- (*semtype/semtyperef26.reader).key -/
def hn262 : Hn := (.sq .lf (.sq .lf (.sq (.sq .lf (.cn (.sq .lf (.sq .lf .lf)) .lf)) (.sq .lf (.js [0, 1, 4, 5, 6] (.sq .lf (.cn .lf .lf)) (.js [0, 1, 4, 6] (.sq .lf (.sq (.dr [0, 1, 2, 3, 4, 5, 6, 7, 8, 9, 10, 11]) (.cn .lf .lf))) (.js [0, 4, 6] (.sq .lf (.cn .lf .lf)) (.sq .lf (.sq .lf .lf)))))))))
def na262 : Nat := 2
/-- semtype/semtyperef26.words -/
def hn263 : Hn := (.sq .lf (.sq .lf .lf))
def na263 : Nat := 0
/-- (*semtype/semtyperef26.reader).branches -/
def hn266 : Hn := (.sq .lf (.sq .lf (.sq (.sq .lf (.jb [5] (.lo [0, 1, 5, 6] (.sq (.sq .lf (.cn .lf .lf)) (.sq (.bl (.js [0, 1, 5] (.sq .lf (.cn .lf .lf)) (.js [0, 1, 5] (.sq .lf (.cn .lf .lf)) (.sq .lf (.sq .lf (.sq .lf .lf)))))) .lf))))) (.sq .lf .lf))))
def na266 : Nat := 2
/-- (*semtype/syntax.parser).branch -/
def hn279 : Hn := (.sq .lf (.sq .lf (.sq .lf (.sq .lf (.sq .lf (.sq .lf (.sq .lf .lf)))))))
def na279 : Nat := 3
/-- semtype/ident.CompareKeys -/
def hn280 : Hn := (.sq .lf (.sq (.sq .lf (.sq .lf (.cn (.sq .lf .lf) .lf))) (.sq .lf .lf)))
def na280 : Nat := 2
/-- internal/strconv.small -/
def hn281 : Hn := (.sq .lf (.sq (.sq .lf (.cn (.sq .lf .lf) .lf)) (.sq .lf .lf)))
def na281 : Nat := 1
/-- internal/stringslite.TrimPrefix -/
def hn303 : Hn := (.sq .lf (.sq (.sq .lf (.cn (.sq .lf .lf) .lf)) (.sq .lf .lf)))
def na303 : Nat := 2
/-- internal/strconv.ParseInt -/
def hn304 : Hn := (.sq .lf (.sq (.sq .lf (.cn (.sq .lf .lf) .lf)) (.sq .lf (.sq (.sq .lf (.jb [0, 1, 2, 8] (.sq .lf (.cn .lf (.sq .lf (.cn (.sq .lf .lf) .lf)))))) (.sq .lf (.sq .lf (.sq (.sq .lf (.cn (.sq .lf .lf) .lf)) (.js [2, 8, 9] (.sq .lf (.cn .lf .lf)) (.sq .lf (.sq (.sq .lf (.cn (.sq .lf .lf) .lf)) (.sq (.sq .lf (.cn (.sq .lf .lf) .lf)) (.sq .lf (.js [11] (.sq .lf (.cn .lf .lf)) (.sq .lf .lf))))))))))))))
def na304 : Nat := 3
/-- internal/stringslite.HasPrefix -/
def hn308 : Hn := (.sq .lf (.sq .lf .lf))
def na308 : Nat := 2
/-- semtype/semtyperef1.CompareKeys -/
def hn321 : Hn := (.sq .lf (.sq (.sq .lf (.cn (.sq .lf .lf) .lf)) (.sq .lf .lf)))
def na321 : Nat := 2
/-- cmp.Compare[int] -/
def hn328 : Hn := (.sq .lf (.sq .lf (.sq .lf (.sq (.sq .lf (.cn (.sq (.sq .lf (.cn (.sq .lf .lf) .lf)) (.sq .lf .lf)) .lf)) (.sq (.sq .lf (.cn (.sq .lf .lf) .lf)) (.sq (.sq .lf (.cn (.sq .lf .lf) .lf)) (.sq (.sq .lf (.cn (.sq .lf .lf) .lf)) (.sq .lf .lf))))))))
def na328 : Nat := 2
/-- strings.Compare -/
def hn329 : Hn := (.sq .lf (.sq .lf .lf))
def na329 : Nat := 2
/-- internal/strconv.ParseUint -/
def hn346 : Hn := (.sq .lf (.sq (.sq .lf (.cn (.sq .lf .lf) .lf)) (.sq .lf (.sq .lf (.sq (.jb [0, 1, 2, 8, 9] (.sq .lf (.cn .lf (.sq .lf (.cn (.sq .lf (.sq .lf (.cn (.jb [0, 1, 2, 8, 9] (.sq .lf (.cn (.sq .lf .lf) (.sq .lf (.cn (.sq .lf .lf) (.sq .lf (.cn (.sq .lf .lf) (.sq .lf .lf)))))))) .lf))) (.sq .lf .lf)))))) (.js [0, 1, 2, 8, 9] (.sq .lf (.cn .lf (.sq .lf (.cn (.sq .lf .lf) .lf)))) (.sq .lf (.sq (.sq .lf (.jb [0, 1, 2, 8, 9, 10] (.sq .lf (.cn .lf (.sq .lf (.cn .lf .lf)))))) (.sq .lf (.sq .lf (.sq .lf (.sq (.sq .lf (.jb [9, 12, 13] (.lo [1, 8, 9, 10, 11, 12, 13, 99, 100, 101] (.sq .lf (.sq (.cn .lf .lf) (.sq (.jb [1, 8, 9, 10, 11, 12, 13, 99, 100, 101] (.sq .lf (.sq .lf (.sq (.jb [1, 8, 9, 10, 11, 12, 13, 16, 99, 100, 101] (.sq .lf (.cn (.sq .lf .lf) (.sq .lf (.cn .lf (.sq .lf (.cn .lf (.sq .lf .lf)))))))) (.sq (.sq .lf (.cn (.sq .lf .lf) .lf)) (.sq (.sq .lf (.cn (.sq .lf .lf) .lf)) (.sq .lf (.sq .lf (.sq (.sq .lf (.cn (.sq .lf .lf) .lf)) .lf))))))))) .lf)))))) (.sq (.sq .lf (.cn (.sq .lf .lf) .lf)) (.sq .lf .lf))))))))))))))
def na346 : Nat := 3
/-- semtype/semtyperef1.Text -/
def hn368 : Hn := (.sq .lf (.sq (.sq .lf (.cn (.sq .lf .lf) .lf)) (.sq (.sq .lf (.cn (.sq .lf .lf) .lf)) (.sq .lf .lf))))
def na368 : Nat := 2
/-- cmp.isNaN[int] -/
def hn377 : Hn := (.sq .lf (.sq .lf .lf))
def na377 : Nat := 1
/-- internal/bytealg.CompareString -/
def hn378 : Hn := (.sq .lf (.sq .lf .lf))
def na378 : Nat := 2

abbrev X (f : Nat) : Nat := bif Nat.testBit 924085747272531016054097208036506906988814845053842651509724814041879609688243144226089649029009985481210612154360 f then 0 else bif Nat.beq f 216 then 2 else bif Nat.beq f 217 then 3 else bif Nat.beq f 405 then 4 else 1
end GoEv
